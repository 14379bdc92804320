/-
Plain laws: what the functions compute answers as the statement says. No condition beyond those that each statement names.
-/
import Derived.Test.YtapgbjedgcpffaaGreatZRGA
import Derived.Test.YtapgbjedgcpffaaGreatZRTB
noncomputable section
namespace Go.Proofs.YtapgbjedgcpffaaGreat.gp
open Go.R w3 l1 pt ga ca cb cc cd ta tb
set_option linter.unusedVariables false
set_option linter.unusedSimpArgs false
theorem tx_le{n:Int}(h:in64 n):(gI n).length<=20:=by
 unfold gI;split
 ·rw[a02];have:=dec_len 18 n.natAbs M;omega
 have:=dec_len 18 n.toNat M;omega
def InR(r:RdT):Prop:= ∀x∈r.l,in64 x
theorem hd_in{r:RdT}(h:InR r):in64 (hdG r):=by
 unfold hdG;cases e:r.l with
 |nil=>decide
 |cons x l=>exact h x (by rw[e];exact a1h ..)
theorem InR.of{r q:RdT}(h:InR r)(s:q.l<:+r.l):InR q:=fun x E=>h x (s.subset E)
theorem fg(r:RdT):(ao r).l<:+r.l:=List.tail_suffix _
def Nd:Nat->Nat
 |0=>1
 |d+1=>1+3 *Nd d
def Ld:Nat->Nat
 |0=>20
 |d+1=>3 *Ld d+12
theorem Nd_ge: ∀d,1<=Nd d
 |0=>a07 _
 |d+1=>by rw[Nd];omega
theorem Ld_ge: ∀d,20<=Ld d
 |0=>a07 _
 |d+1=>by have:=Ld_ge d;rw[Ld];omega
def inE:ExpT->Prop
 |⟨_,n,_,_,ks⟩=>in64 n/\inEs ks
where inEs:List ExpT->Prop
 | []=>True
 |e::l=>inE e/\inEs l
structure GE(f:Int)(d:Nat)(e:ExpT):Prop where
 nd:ndE e<=Nd d
 len:(fmE e).length<=Ld d
 dp:dpE e<=d
 wf:wfE e=true
 nb:nbE e
 df:dfE (aT f) abG e=true
 ie:inE e
theorem nm_mem(f n:Int):nmG f n∈aT f:=eJ (cS f _)
theorem nm_ok(f:Int): ∀s∈aT f,s.b.length=1/\vnm s.b=true/\fA (aT f) s.b=true:=by unfold aT;split<;>decide
theorem ab_mem(k:Nat)(h:k<2):abG.getD k default∈abG:=eJ h
theorem ab_ok: ∀s∈abG,s.b.length=1/\vnm s.b=true/\fA abG s.b=true:=by decide
theorem lG(e:ExpT)(m:Bool)(t:List UInt8):(opF e m t).length<=t.length+2:=by
 unfold opF;split
 ·simp only[a00,a02,List.length_nil];omega
 omega
theorem opX_le(o:Int):(opX o).length<=3:=by
 unfold opX;have h: ∀s∈opTx,s.b.length<=3:=by decide
 rcases a0c (o-4).toNat opTx.length with k|k
 ·exact h _ (eJ k)
 rw[bh k];decide
section
variable {f:Int} {d:Nat}
theorem GE.num{n:Int}(h:in64 n):GE f d (mkE 1 n dy 0 []):=by
 have E:=Nd_ge d;have O:=Ld_ge d;refine⟨E,?_,a0l _,V,?_,V,?_⟩
 ·rw[fm_1 rfl];exact a0g (tx_le h) O
 ·show nbE ⟨1,n,dy,0,[]⟩;rw[nbE];exact⟨by decide,by rw[gF];trivial⟩
 show inE ⟨1,n,dy,0,[]⟩;rw[inE];exact⟨h,by rw[inE.inEs];trivial⟩
theorem GE.var{s:Str}(h:s∈aT f):GE f d (mkE 2 0 s 0 []):=by
 obtain⟨k1,k2,O⟩:=nm_ok f s h;have E:=Nd_ge d;have T:=Ld_ge d;refine⟨E,?_,a0l _,?_,?_,?_,?_⟩
 ·rw[fm_2 rfl];show s.b.length<=_;omega
 ·rw[wf_e];show(true&&vnm s.b)=true;rw[k2];rfl
 ·show nbE ⟨2,0,s,0,[]⟩;rw[nbE];exact⟨by omega,by rw[gF];trivial⟩
 ·rw[df_e];show(true&&(false||fA (aT f) s.b)&&true)=true;rw[O];rfl
 show inE ⟨2,0,s,0,[]⟩;rw[inE];exact⟨by decide,by rw[inE.inEs];trivial⟩
variable {a b c:ExpT} (ha:GE f d a) (hb:GE f d b) (hc:GE f d c)
include ha
theorem GE.idx{s:Str}(h:s∈abG):GE f (d+1) (mkE 3 0 s 0 [a]):=by
 obtain⟨k1,k2,E⟩:=ab_ok s h;refine⟨?_,?_,?_,?_,?_,?_,?_⟩
 ·rw[nd_e];show 1+im [a]<=_;rw[im,im,Nd];have:=ha.nd;omega
 ·rw[fm_3 V rfl];show((s.b++[91])++fmE a++[93]).length<=_
  simp only[a00,a02,List.length_nil,Ld];have:=ha.len;omega
 ·rw[dp_e];show km [a]<=_;rw[km,km];have:=ha.dp;omega
 ·rw[wf_e];show(fC [a]&&vnm s.b)=true;rw[fC,fC,ha.wf,k2];rfl
 ·show nbE ⟨3,0,s,0,[a]⟩;rw[nbE,gF,gF];exact⟨by omega,ha.nb,trivial⟩
 ·rw[df_e];show(f0 _ _ [a]&&true&&(false||fA abG s.b))=true;rw[f0,f0,ha.df,E];rfl
 show inE ⟨3,0,s,0,[a]⟩;rw[inE,inE.inEs,inE.inEs];exact⟨by decide,ha.ie,trivial⟩
theorem GE.un{o:Int}(h:o=20\/o=21):GE f (d+1) (mkE 4 0 dy o [a]):=by
 refine⟨?_,?_,?_,?_,?_,?_,?_⟩
 ·rw[nd_e];show 1+im [a]<=_;rw[im,im,Nd];have:=ha.nd;omega
 ·have:=ha.len;rcases h with rfl|rfl
  ·rw[fm_n V V rfl];show([45]++opF a true (fmE a)).length<=_
   have:=lG a true (fmE a);simp only[a00,a02,List.length_nil,Ld];omega
  rw[fm_t V V rfl];show([126]++opF a false (fmE a)).length<=_
  have:=lG a false (fmE a);simp only[a00,a02,List.length_nil,Ld];omega
 ·rw[dp_e];show km [a]<=_;rw[km,km];have:=ha.dp;omega
 ·rw[wf_e];rcases h with rfl|rfl<;>(show(fC [a]&&true)=true;rw[fC,fC,ha.wf];rfl)
 ·show nbE ⟨4,0,dy,o,[a]⟩;rw[nbE,gF,gF];exact⟨by decide,ha.nb,trivial⟩
 ·rw[df_e];show(f0 _ _ [a]&&true&&true)=true;rw[f0,f0,ha.df];rfl
 show inE ⟨4,0,dy,o,[a]⟩;rw[inE,inE.inEs,inE.inEs];exact⟨by decide,ha.ie,trivial⟩
include hb
theorem GE.bin{o:Int}(h:4<=o/\o<=18):GE f (d+1) (mkE 4 0 dy o [a,b]):=by
 refine⟨?_,?_,?_,?_,?_,?_,?_⟩
 ·rw[nd_e];show 1+im [a,b]<=_;rw[im,im,im,Nd];have:=ha.nd;have:=hb.nd;omega
 ·have E:=ha.len;have O:=hb.len
  rw[fm_b V (show o≠20 by omega) (show o≠21 by omega) rfl];show((((opF a false (fmE a)++[32])++opX o)++[32])++opF b false (fmE b)).length<=_;have:=lG a false (fmE a);have:=lG b false (fmE b);have:=opX_le o
  simp only[a00,a02,List.length_nil,Ld];omega
 ·rw[dp_e];show km [a,b]<=_;rw[km,km,km];have:=ha.dp;have:=hb.dp;omega
 ·rw[wf_e];show(fC [a,b]&&(true&&(binO o||false)))=true
  rw[fC,fC,fC,ha.wf,hb.wf,show binO o=true by unfold binO;rw[decide_eq_true h.1,decide_eq_true h.2];rfl];rfl
 ·show nbE ⟨4,0,dy,o,[a,b]⟩;rw[nbE,gF,gF,gF];exact⟨by decide,ha.nb,hb.nb,trivial⟩
 ·rw[df_e];show(f0 _ _ [a,b]&&true&&true)=true;rw[f0,f0,f0,ha.df,hb.df];rfl
 show inE ⟨4,0,dy,o,[a,b]⟩;rw[inE,inE.inEs,inE.inEs,inE.inEs];exact⟨by decide,ha.ie,hb.ie,trivial⟩
include hc
theorem GE.cond:GE f (d+1) (mkE 5 0 dy 0 [a,b,c]):=by
 refine⟨?_,?_,?_,?_,?_,?_,?_⟩
 ·rw[nd_e];show 1+im [a,b,c]<=_;rw[im,im,im,im,Nd];have:=ha.nd;have:=hb.nd;have:=hc.nd;omega
 ·have E:=ha.len;have O:=hb.len;have T:=hc.len
  rw[fm_5 V rfl];show((((opF a false (fmE a)++[32,63,32])++opF b false (fmE b))++[32,58,32])++opF c false (fmE c)).length<=_;have:=lG a false (fmE a);have:=lG b false (fmE b);have:=lG c false (fmE c)
  simp only[a00,a02,List.length_nil,Ld];omega
 ·rw[dp_e];show km [a,b,c]<=_;rw[km,km,km,km];have:=ha.dp;have:=hb.dp;have:=hc.dp;omega
 ·rw[wf_e];show(fC [a,b,c]&&true)=true;rw[fC,fC,fC,fC,ha.wf,hb.wf,hc.wf];rfl
 ·show nbE ⟨5,0,dy,0,[a,b,c]⟩;rw[nbE,gF,gF,gF,gF];exact⟨by decide,ha.nb,hb.nb,hc.nb,trivial⟩
 ·rw[df_e];show(f0 _ _ [a,b,c]&&true&&true)=true;rw[f0,f0,f0,f0,ha.df,hb.df,hc.df];rfl
 show inE ⟨5,0,dy,0,[a,b,c]⟩;rw[inE,inE.inEs,inE.inEs,inE.inEs,inE.inEs];exact⟨by decide,ha.ie,hb.ie,hc.ie,trivial⟩
end
theorem leaf_ok{f n:Int}{d:Nat}{b:Bool}(h:in64 n):GE f d (nx f n b):=by
 unfold nx;split
 ·exact .var (nm_mem f n)
 exact .num (word_in h)
theorem kC{f:Int}: ∀(d:Nat) {r:RdT},InR r->GE f d (am f d r).1/\(am f d r).2.l<:+(ao r).l/\(am f d r).2.n=r.n
 |0,r,h=>⟨leaf_ok (hd_in h),a1M _,V⟩
 |d+1,r,h=>by
  have hn:InR (ao r):=h.of (fg r);obtain⟨T,E,U⟩:=kC d hn;have E:=E.trans (fg _);obtain⟨Y,O,Z⟩:=kC d (hn.of E);have O:=(O.trans (fg _)).trans E;obtain⟨c1,c2,c3⟩:=kC d (hn.of O);have c2:=(c2.trans (fg _)).trans O;rw[am];split
  ·exact⟨leaf_ok (hd_in h),a1M _,V⟩
  split
  ·exact⟨T.idx (ab_mem _ (Nat.mod_lt _ e_)),E,U⟩
  split
  ·exact⟨T.cond Y c1,c2,c3.trans (Z.trans U)⟩
  split
  ·refine⟨T.un ?_,E,U⟩;rcases Nat.mod_two_eq_zero_or_one (aw ((hdG r).tdiv 16) 1000) with e|e<;>rw[e]
   ·exact .inl V
   exact .inr V
  exact⟨T.bin Y (by have:=Nat.mod_lt (aw ((hdG r).tdiv 16) 1000) (show 0<15 by decide);omega),O,Z.trans U⟩
end Go.Proofs.YtapgbjedgcpffaaGreat.gp
