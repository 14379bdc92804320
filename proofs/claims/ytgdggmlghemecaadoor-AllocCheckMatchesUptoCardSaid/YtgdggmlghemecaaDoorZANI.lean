/-
The reference interference graph and use counts. No condition but bounds on lengths.
-/
import Derived.Test.YtgdggmlghemecaaDoorZANC
noncomputable section
namespace Go.Proofs.YtgdggmlghemecaaDoor.ni
open Go.R
set_option maxRecDepth 10000
set_option maxHeartbeats 4000000
set_option linter.unusedVariables false
set_option linter.unusedSimpArgs false
variable (ex:FuncId) {F:Fz} {H:Heap} {R:List Fp}
open m1 m2 m3 m4 m5 m6 ma ml mb mc md mf mg mh mi mj na nb nc
theorem e0_iff{c:VFnT}{k n:Nat}(z:(bh c k).ins.length=n)(a x:Nat):E1 c k n a x↔E0 c (k+1) a x:=by
 unfold E1 E0;constructor
 ·rintro(⟨b,i,E,A⟩|⟨i,E,A⟩)
  ·exact⟨b,i,by omega,A⟩
  exact⟨k,i,a1u _,by omega,A⟩
 rintro⟨b,i,E,A,N⟩;rcases a0j b k with hb|hb
 ·exact .inl ⟨b,i,hb,A,N⟩
 have:b=k:=M
 subst this;exact .inr ⟨i,by omega,N⟩
theorem e1_iff{c:VFnT}{k:Nat}(a x:Nat):E0 c k a x↔E1 c k 0 a x:=⟨.inl,fun h=>h.elim id fun⟨i,h,_⟩=>absurd h (a0t _)⟩
theorem e1s_iff{c:VFnT}{k n q:Nat}(z:(ab (kN c k n)).length<=q)(a x:Nat):E2 c k n q a x↔E1 c k (n+1) a x:=by
 unfold E2 E1;rw[a0h z];constructor
 ·rintro((h|⟨i,E,A⟩)|h)
  ·exact .inl h
  ·exact .inr ⟨i,by omega,A⟩
  exact .inr ⟨n,a1u _,h⟩
 rintro(h|⟨i,E,A⟩)
 ·exact .inl (.inl h)
 rcases a0j i n with hi|hi
 ·exact .inl (.inr ⟨i,hi,A⟩)
 have:i=n:=M
 subst this;exact .inr A
theorem e2_iff{c:VFnT}{k n:Nat}(a x:Nat):E1 c k n a x↔E2 c k n 0 a x:=⟨.inl,fun h=>h.elim id fun h=>by simp at h⟩
theorem e2s_iff{c:VFnT}{k n q p:Nat}{l:List Int}(z:Lst l (ptS c k (n+1)))(U:q<(ab (kN c k n)).length)(T:l.length<=p)(a x:Nat):E3 c k n q l p a x↔E2 c k n (q+1) a x:=by
 unfold E3 E2;rw[a0h T,bK U (d:=0),a08,a0f,z.mem];have e:((x:Int)).toNat=x:=M
 rw[e];constructor
 ·rintro((h|⟨A,E,N⟩)|⟨A,⟨_,E⟩,N⟩)
  ·exact .inl h
  ·exact .inr ⟨.inl A,E,N⟩
  exact .inr ⟨.inr A,E,N⟩
 rintro(h|⟨A|A,E,N⟩)
 ·exact .inl (.inl h)
 ·exact .inl (.inr ⟨A,E,N⟩)
 exact .inr ⟨A,⟨by omega,E⟩,N⟩
theorem e3_iff{c:VFnT}{k n q:Nat}{l:List Int}(a x:Nat):E2 c k n q a x↔E3 c k n q l 0 a x:=⟨.inl,fun h=>h.elim id fun h=>by simp at h⟩
structure RlF(c:VFnT)(g:List (List Int))(R:Nat->Nat->Prop):Prop where
 len:g.length=c.regs.toNat
 row: ∀r,r<c.regs.toNat->Lst (g.getD r default) (Sy R r)
 rng: ∀r,(g.getD r default).length<=3000/\∀x∈g.getD r default,0<=x/\x<c.regs
theorem RlF.iff{c:VFnT}{g:List (List Int)}{R z:Nat->Nat->Prop}(h:RlF c g R)(k: ∀a x,R a x↔z a x):RlF c g z:=⟨h.len,fun r A=>Lst.ext (h.row r A) fun y=>Sy.iff k r y,h.rng⟩
theorem rl_zero{c:VFnT}:RlF c (List.replicate c.regs.toNat ([]:List Int)) (E0 c 0):=by
 have e: ∀r,(List.replicate c.regs.toNat ([]:List Int)).getD r default=[]:=fun r=>by rw[a03,a1k];split<;>rfl
 refine⟨a0H,fun r _=>?_,fun r=>?_⟩
 ·rw[e];exact Lst.nil fun y h=>by rcases h with⟨b,_,h,_⟩|⟨b,_,h,_⟩<;>exact absurd h (a0t _)
 rw[e];exact⟨a0I _,fun x z=>by cases z⟩
theorem rl_yes{c:VFnT}(v:VF c){g:List (List Int)}{k n q p:Nat}{l:List Int}(hp:p<l.length)(h:RlF c g (E3 c k n q l p))(hn:eok c k n ((ab (kN c k n)).getD q 0) (l.getD p 0))(Z:0<=(ab (kN c k n)).getD q 0/\(ab (kN c k n)).getD q 0<c.regs)(hx:0<=l.getD p 0/\l.getD p 0<c.regs):
  RlF c ((g.set ((ab (kN c k n)).getD q 0).toNat (dJ (g.getD ((ab (kN c k n)).getD q 0).toNat default) (l.getD p 0))).set (l.getD p 0).toNat (dJ (g.getD (l.getD p 0).toNat default) ((ab (kN c k n)).getD q 0))) (E3 c k n q l (p+1)):=by
 generalize ea:(ab (kN c k n)).getD q 0=a at *
 generalize ex:l.getD p 0=x at *
 have hl:=h.len
 have hr:=v.regs
 have ai:a.toNat≠x.toNat:=fun e=>hn.1 M
 have e: ∀r,((g.set a.toNat (dJ (g.getD a.toNat default) x)).set x.toNat (dJ (g.getD x.toNat default) a)).getD r default=if x.toNat=r then dJ (g.getD r default) a else if a.toNat=r then dJ (g.getD r default) x else g.getD r default:=fun r=>by
  rw[dI,dI];by_cases N:x.toNat=r
  ·subst N;rw[if_pos ⟨V,by rw[a0c];omega⟩,if_pos rfl]
  rw[if_neg (fun A=>N A.1),if_neg N];by_cases T:a.toNat=r
  ·subst T;rw[if_pos ⟨V,by omega⟩,if_pos rfl]
  rw[if_neg (fun A=>T A.1),if_neg T]
 have E: ∀r y,Sy (E3 c k n q l (p+1)) r y↔Sy (E3 c k n q l p) r y\/(r=a.toNat/\y=x.toNat)\/(r=x.toNat/\y=a.toNat):=fun r y=>by
  unfold Sy;rw[iS hp,iS hp,ea,ex];constructor
  ·rintro((N|⟨N,A,_⟩)|(N|⟨N,A,_⟩))
   ·exact .inl (.inl N)
   ·exact .inr (.inl ⟨by omega,by omega⟩)
   ·exact .inl (.inr N)
   exact .inr (.inr ⟨by omega,by omega⟩)
  rintro((N|N)|⟨N,A⟩|⟨N,A⟩)
  ·exact .inl (.inl N)
  ·exact .inr (.inl N)
  ·subst N A;exact .inl (.inr ⟨by omega,by omega,eok_of hn Z.1 hx.1⟩)
  subst N A;exact .inr (.inr ⟨by omega,by omega,eok_of hn Z.1 hx.1⟩)
 have R: ∀r,∀y∈((g.set a.toNat (dJ (g.getD a.toNat default) x)).set x.toNat (dJ (g.getD x.toNat default) a)).getD r default,0<=y/\y<c.regs:=fun r y z=>by
  rw[e]at z;split at z
  ·rcases kj.1 z with rfl|z
   ·exact Z
   exact(h.rng r).2 y z
  split at z
  ·rcases kj.1 z with rfl|z
   ·exact hx
   exact(h.rng r).2 y z
  exact(h.rng r).2 y z
 have W: ∀r,r<c.regs.toNat->Lst (((g.set a.toNat (dJ (g.getD a.toNat default) x)).set x.toNat (dJ (g.getD x.toNat default) a)).getD r default) (Sy (E3 c k n q l (p+1)) r):=fun r an=>by
  rw[e];have U:=h.row r an;split
  ·rename_i N;refine Lst.ext (Lst.ins U Z.1) fun y=>?_
   rw[E];constructor
   ·rintro(A|A)
    ·exact .inl A
    exact .inr (.inr ⟨N.symm,by omega⟩)
   rintro(A|⟨A,_⟩|⟨_,A⟩)
   ·exact .inl A
   ·exact absurd (A.symm.trans N.symm) ai
   exact .inr M
  rename_i N;split
  ·rename_i T;refine Lst.ext (Lst.ins U hx.1) fun y=>?_
   rw[E];constructor
   ·rintro(A|A)
    ·exact .inl A
    exact .inr (.inl ⟨T.symm,by omega⟩)
   rintro(A|⟨_,A⟩|⟨A,_⟩)
   ·exact .inl A
   ·exact .inr M
   exact absurd A.symm N
  rename_i T;refine Lst.ext U fun y=>?_
  rw[E];constructor
  ·exact .inl
  rintro(A|⟨A,_⟩|⟨A,_⟩)
  ·exact A
  ·exact absurd A.symm T
  exact absurd A.symm N
 refine⟨by rw[a0c,a0c];exact hl,W,fun r=>⟨?_,R r⟩⟩
 rcases a0j r c.regs.toNat with N|N
 ·have:=kH 0 hr.1 (W r N).asc (R r);omega
 rw[cV (by rw[a0c,a0c];omega)];exact a0I _
theorem rl_no{c:VFnT}{g:List (List Int)}{k n q p:Nat}{l:List Int}(T:p<l.length)(h:RlF c g (E3 c k n q l p))(z: ¬eok c k n ((ab (kN c k n)).getD q 0) (l.getD p 0)):RlF c g (E3 c k n q l (p+1)):=h.iff fun a x=>by rw[iS T];exact⟨.inl,fun h=>h.elim id fun⟨E,N,A⟩=>absurd (by rw[E,N]at A;exact A) z⟩
theorem end_rng{c:VFnT}{b:Nat}(v:VF c)(A:b<c.blocks.length): ∀x∈ei (bh c b),0<=x/\x<c.regs:=fun x z=>by
 unfold ei at z;split at z
 ·rename_i h;rw[a0f]at z;subst z;exact v.fin b A h
 cases z
theorem rl_fin{c:VFnT}{g:List (List Int)}{b:Nat}(z:c.blocks.length<=b)(A:b<=c.blocks.length)(h:RlF c g (E0 c b)):InF c g:=by
 have e:b=c.blocks.length:=M
 subst e;exact⟨h.len,h.row⟩
theorem jA{b6:Option Addr}{c4:Nat}(c:VFnT)(hs:HS (.of H []) F H [] R)(ll:in64 c.params)(lr:in64 c.regs)(ad:SR F (sL b6 c.blocks.length c4) c.blocks)(z:TB 37 tabC F)(ao: ∀j,(c.blocks.getD j default).ins.length<=1073741822):kKt ex 22 [(aG [(iI c.params),(iI c.regs),(sL b6 c.blocks.length c4)])] H fun v H'=> ∃(ag:Option Addr) (kg:Nat) (g:List (List Int)) (F':Fz),Fz.le F F'/\HS (.of H []) F' H' [] R/\v=sL ag g.length kg/\SR F' (sL ag g.length kg) g/\(bT c=true->InF c g)/\(bT c=false->g=[]):=by
 refine aC Tryd.func22 V V (aj 1 V (aa (aV (aO hs V V) V V ?_)));rintro _ H2 _ ⟨b1,rfl,fd,_⟩;let hn:Value:=(aG [(iI c.params),(iI c.regs),(sL b6 c.blocks.length c4)])
 refine za (sL none 0 0) (ae 3 V (aa (bn 1 0 12 12 [] [(12,hn)] (Hr_ 0 0 Hn_) fd V V fun _=>zc (m3.eQ ex c (HS.call fd) M M ad z (fun j=>a0e (ao j) M)) ?_)));rintro _ H4 ⟨r4,F4,d4,c8,rfl,rfl⟩;replace c8:=HS.back fd V c8;replace z:=z.mono d4;replace ad:=ad.mono d4;refine cj 1 2 14 14 [] [(14,(.bool (!(bT c))))] Hn_ (by kernel_rfl) V fun _=>ae 1 V (zi 1 2 (fun c6=>?_) fun c6=>?_)
 ·try simp only[BS]at c6
  have hv:=c6;refine wT 1 [] 2 2 [] [(2,(sL none 0 0))] V fun _=>am ⟨.inr V,_,V,none,0,([]:List (List Int)),_,(d4),(HS.forget c8),V,(SR.nil:SR F4 (sL none 0 0) ([]:List (List Int))),(fun h=>absurd (h.symm.trans hv) e_),(fun _=>rfl)⟩
 try simp only[BS]at c6
 have hv:=c6;have vF:=eU hv;have n7:=vF.nb;have nd:=vF.regs;refine aa (bn 2 0 15 16 [] [(16,(iI c.regs))] (Hr_ 1 0 Hn_) c8 V V fun _=>aV (cG ([]:(List Int)) c8 V V V V V V V V V ⟨none,0,V,SR.nil⟩ M M) V V ?_);rintro _ m7 p9 ⟨a9,k9,rfl,h7,hz,_⟩;let et:Fp:=(fP b1 [(iI c.params),(iI c.regs),(sL b6 c.blocks.length c4)])
 refine za (sL a9 (List.replicate c.regs.toNat ([]:(List Int))).length k9) (ae 3 V (wT 2 [] 1 0 [4] [(4,(iI 0))] V fun _=>ah (fun(mm:Nat) f H'=> ∃(g1:List (List Int)) (b:Nat) (av:Option Addr) (aw:Nat) (a8:Fp) (F':Fz),Fz.le F4 F'/\HS (Base.of H []) F' H' [et,a8] R/\OS F' (sL av g1.length aw) g1 a8/\aA f [(1,(pT b1 0)),(3,(sL av g1.length aw)),(4,(iI (b:Int)))]/\mm=c.blocks.length-b/\(RlF c g1 (E0 c b))/\(b<=c.blocks.length)) _ ⟨List.replicate c.regs.toNat ([]:(List Int)),0,a9,k9,p9,_,fR,hz,h7,⟨V,V,V,trivial⟩,V,(rl_zero),M⟩ ?_));rintro l3 nm m8 ⟨g1,b,av,aw,a8,mI,b8,b4,a6,e3,rfl,g9,hb⟩ hC;refine ap _ e3 (fun _=>?_);clear e3;replace z:=z.mono b8;replace ad:=ad.mono b8;refine aj 2 V (bF 1 18 22 [] [(22,(.bool (decide ((b:Int)<(c.blocks.length:Int)))))] (Hr_ 2 0 Hn_) b4 V V fun _=>zd 4 5 (fun h3=>?_) fun h3=>?_)
 ·have dk:b<c.blocks.length:=M
  have n5:=ao b;refine aa (bn 2 0 25 26 [] [(25,hn),(26,(iI (b:Int)))] (Hr_ 0 0 Hn_) b4 V V fun _=>zc (mj.rlp_c ex c (b:Int) (HS.call b4) M M ad M z (fun j=>a0e (ao j) M)) ?_);rintro _ m9 ⟨bb,bz,A,hM,b9,dt,rfl,an,la,k8⟩;replace dt:=HS.back b4 V dt;replace a6:=a6.mono b9;refine za (sL bb A.length bz) (ae 2 V ?_);have pf:PtF c b A:=(by assumption:bT c=true->0<=((b:Nat):Int)->((b:Nat):Int)<(c.blocks.length:Int)->PtF c ((b:Nat):Int).toNat A) hv M M;have n8:(A).length=(c.blocks.getD b default).ins.length+1:=pf.len;refine wT 2 [] 1 0 [6] [(6,(iI 0))] V fun _=>ah (fun(mm:Nat) f H'=> ∃(g2:List (List Int)) (k:Nat) (a0:Option Addr) (a2:Nat) (a4:Fp) (F':Fz),Fz.le hM F'/\HS (Base.of H []) F' H' [et,a4] R/\OS F' (sL a0 g2.length a2) g2 a4/\aA f [(1,(pT b1 0)),(3,(sL a0 g2.length a2)),(4,(iI (b:Int))),(5,(sL bb A.length bz)),(6,(iI (k:Int)))]/\mm=(c.blocks.getD b default).ins.length-k/\(RlF c g2 (E1 c b k))/\(k<=(c.blocks.getD b default).ins.length)) _ ⟨g1,0,av,aw,a8,_,fR,dt,a6,⟨V,V,V,V,V,trivial⟩,V,(g9.iff e1_iff),M⟩ ?_
  rintro l4 nn ne ⟨g2,k,a0,a2,a4,mW,b2,ar,a7,e4,rfl,ha,hk⟩ hD;refine ap _ e4 (fun _=>?_);clear e4;replace z:=(z.mono b9).mono b2;replace ad:=(ad.mono b9).mono b2;replace an:=an.mono b2;refine aj 2 V ?_;obtain⟨kz,f0⟩:=Sv.view (SR.sv ad ar);obtain⟨ih,ik,il,it,kl⟩:=BlkT.fx (f0 b);refine bF 1 28 36 [] [(36,(.bool (decide ((k:Int)<((c.blocks.getD b default).ins.length:Int)))))] (Hr_ 2 0 (Ha_ (Sv.ix (j:=(b:Int)) (SR.sv ad ar)) (Hl_ 6 (ql 41 0 (BlkT.vw (f0 b)) V V) Hn_))) ar V V fun _=>zd 4 5 (fun h4=>?_) fun h4=>?_
  ·have hd:k<(c.blocks.getD b default).ins.length:=M
   have pt:Lst ((A).getD (((k:Nat):Int)+1).toNat default) (ptS c b (k+1)):=pf.pt (k+1) hd;have n4:=Lst.len pt nd.1 (fun r h=>eB vF dk h);have al: ∀x∈ab ((c.blocks.getD b default).ins.getD k default),0<=x/\x<c.regs:=(bx (vF.ins b dk k hd)).2.1;have nE:=dN (v:=((c.blocks.getD b default).ins.getD k default));refine aa ?_;obtain⟨k0,f1⟩:=Sv.view (SR.sv ad ar);obtain⟨iv,iz,i2,i3,em⟩:=BlkT.fx (f1 b);obtain⟨b7,f2⟩:=Sv.view (SR.sv em ar);obtain⟨ja,jb,jq,jw,kc,g7⟩:=VInT.fx (f2 k);let hp:Value:=(aG [(iI ((c.blocks.getD b default).ins.getD k default).i.op),(iI ((c.blocks.getD b default).ins.getD k default).i.a),(iI ((c.blocks.getD b default).ins.getD k default).i.b),(iI ((c.blocks.getD b default).ins.getD k default).i.c),(iI ((c.blocks.getD b default).ins.getD k default).i.n),(sL (cA (b7 k) 5) ((c.blocks.getD b default).ins.getD k default).args.length (cK (b7 k) 5))])
   refine bn 9 0 39 47 [] [(47,hp)] (Hr_ 1 0 (Ha_ (Sv.ix (j:=(b:Int)) (SR.sv ad ar)) (Hl_ 5 (ql 41 0 (BlkT.vw (f1 b)) V V) (Ha_ (Sv.ix (j:=(k:Int)) (SR.sv em ar)) (Hl_ 8 (qn 47 0 6 (VInT.vw (f2 k)) V V V V) Hn_))))) ar V V fun _=>zn ar V fun ez ng hA=>sgo 1 10 1 0 [] [] (Hr_ 10 2 Hn_) hA V V fun k7 nh dv=>ae 2 V (aa (bn 1 0 48 48 [] [(48,hp)] (Hr_ 0 2 Hn_) dv V V fun _=>?_))
   refine zc (ma.jW ex ((c.blocks.getD b default).ins.getD k default) (HS.call dv) M M M M M g7 z) ?_;rintro _ nj ⟨dd,d3,nF,hf,hQ,cc,d1,rfl,T,rfl⟩;replace d1:=HS.back dv V d1;replace a7:=a7.mono cc;let hq:Fp:=(fP ez [(iI ((c.blocks.getD b default).ins.getD k default).i.op),(iI ((c.blocks.getD b default).ins.getD k default).i.a),(iI ((c.blocks.getD b default).ins.getD k default).i.b),(iI ((c.blocks.getD b default).ins.getD k default).i.c),(iI ((c.blocks.getD b default).ins.getD k default).i.n),(sL (cA (b7 k) 5) ((c.blocks.getD b default).ins.getD k default).args.length (cK (b7 k) 5))])
   refine za (sL dd (ab ((c.blocks.getD b default).ins.getD k default)).length d3) (ae 2 V (wT 2 [] 1 0 [9] [(9,(iI 0))] V fun _=>ah (fun(mm:Nat) f H'=> ∃(g3:List (List Int)) (i:Nat) (a1:Option Addr) (a3:Nat) (a5:Fp) (F':Fz),Fz.le hQ F'/\HS (Base.of H []) F' H' [et,a5,hq,hf] R/\OS F' (sL a1 g3.length a3) g3 a5/\aA f [(1,(pT b1 0)),(3,(sL a1 g3.length a3)),(4,(iI (b:Int))),(5,(sL bb A.length bz)),(6,(iI (k:Int))),(7,(pT ez 0)),(8,(sL dd (ab ((c.blocks.getD b default).ins.getD k default)).length d3)),(9,(iI (i:Int)))]/\mm=(ab ((c.blocks.getD b default).ins.getD k default)).length-i/\(RlF c g3 (E2 c b k i))/\(i<=(ab ((c.blocks.getD b default).ins.getD k default)).length)) _ ⟨g2,0,a0,a2,a4,_,fR,d1,a7,⟨V,V,V,V,V,V,V,V,trivial⟩,V,(ha.iff e2_iff),M⟩ ?_));rintro l9 np nk ⟨g3,i,a1,a3,a5,hR,b3,fi,c9,e5,rfl,he,hi⟩ hE;refine ap _ e5 (fun _=>?_);clear e5;replace z:=(z.mono cc).mono b3;replace an:=(an.mono cc).mono b3;replace T:=T.mono b3;refine aj 2 V (wT 1 [] 50 53 [] [(53,(.bool (decide ((i:Int)<((ab ((c.blocks.getD b default).ins.getD k default)).length:Int)))))] V fun _=>zd 4 5 (fun h5=>?_) fun h5=>?_)
   ·have no:=dm al (k:=i) M;refine wT 2 [] 1 0 [10] [(10,(iI 0))] V fun _=>ah (fun(mm:Nat) f H'=> ∃(g4:List (List Int)) (j:Nat) (U:Option Addr) (a_:Nat) (ax:Fp) (F':Fz),Fz.le hR F'/\HS (Base.of H []) F' H' [et,ax,hq,hf] R/\OS F' (sL U g4.length a_) g4 ax/\aA f [(1,(pT b1 0)),(3,(sL U g4.length a_)),(4,(iI (b:Int))),(5,(sL bb A.length bz)),(6,(iI (k:Int))),(7,(pT ez 0)),(8,(sL dd (ab ((c.blocks.getD b default).ins.getD k default)).length d3)),(9,(iI (i:Int))),(10,(iI (j:Int)))]/\mm=((A).getD (((k:Nat):Int)+1).toNat default).length-j/\(RlF c g4 (E3 c b k i ((A).getD (((k:Nat):Int)+1).toNat default) j))/\(j<=((A).getD (((k:Nat):Int)+1).toNat default).length)) _ ⟨g3,0,a1,a3,a5,_,fR,fi,c9,⟨V,V,V,V,V,V,V,V,V,trivial⟩,V,(he.iff e3_iff),M⟩ ?_
    rintro mk nq g8 ⟨g4,j,U,a_,ax,mX,bk,E,N,e6,rfl,b5,hj⟩ f8;refine ap _ e6 (fun _=>?_);clear e6;replace z:=z.mono bk;replace an:=an.mono bk;replace T:=T.mono bk;refine aj 2 V (aa (wTo 3 0 [] 56 58 [] [(56,(iI (j:Int))),(57,(sL bb A.length bz)),(58,(iI (k:Int)))] V fun _=>zc (mh.kK ex A (k:Int) (HS.call E) an M z M) ?_));rintro _ g8 ⟨kx,l1,nG,rfl,rfl,kk,rfl⟩;refine wTo 2 4 [] 60 61 [] [(61,(.bool (decide ((j:Int)<((A.getD ((k:Int)+1).toNat default).length:Int)))))] V fun _=>ae 1 V (zd 4 5 (fun h6=>?_) fun h6=>?_)
    ·have nK:0<=(((A).getD (((k:Nat):Int)+1).toNat default).getD j 0)/\(((A).getD (((k:Nat):Int)+1).toNat default).getD j 0)<c.regs:=by(have hm:=(pt.mem _).1 (i8 (l:=((A).getD (((k:Nat):Int)+1).toNat default)) (q:=j) M);have hh:=eB vF dk hm.2;omega)
     refine aa (cj 2 0 64 65 [] [(64,(sL bb A.length bz)),(65,(iI (k:Int)))] Hn_ (by kernel_rfl) V fun _=>zc (mh.kK ex A (k:Int) (HS.call E) an M z M) ?_);rintro _ g8 ⟨ky,l2,nH,rfl,rfl,ea,rfl⟩;obtain⟨k3,f3⟩:=Sv.view (SR.sv ea E);have ny:=fI (f3 j);refine cj 4 3 67 69 [11] [(11,(iI ((A.getD ((k:Int)+1).toNat default).getD j 0)))] (Ha_ (Sv.ix (j:=(j:Int)) (SR.sv ea E)) (Hl_ 5 (ql 3 0 (vI (f3 j)) V V) Hn_)) (by kernel_rfl) V fun _=>ae 2 V ?_
     obtain⟨k4,f4⟩:=Sv.view (OS.sv T E (i:=3) V);have nz:=fI (f4 i);refine wrp 1 70 89 [] [(89,(.bool ((((A.getD ((k:Int)+1).toNat default).getD j 0) !=((ab ((c.blocks.getD b default).ins.getD k default)).getD i 0))&&(!((((c.blocks.getD b default).ins.getD k default).i.op==10)&&(((A.getD ((k:Int)+1).toNat default).getD j 0)==((c.blocks.getD b default).ins.getD k default).i.b))))))] (Ha_ (Sv.ix (j:=(i:Int)) (OS.sv T E (i:=3) V)) (Hl_ 4 (ql 3 0 (vI (f4 i)) V V) (bt 9 (fun _=>(ql 3 0 (i_ E V) V V)) (Hl2_ 15 (fun _ _=>(ql 3 2 (i_ E V) V V)) Hn_)))) V V fun _=>zi 0 2 (fun c5=>?_) fun c5=>?_
     ·try simp only[BS]at c5
      have ds:=c5;have dl:eok c b k ((ab ((c.blocks.getD b default).ins.getD k default)).getD i 0) (((A).getD (((k:Nat):Int)+1).toNat default).getD j 0):=⟨ds.1,fun h=>by have h2:=ds.2;simp_all⟩
      have n6:=b5.len;have nC:=(b5.rng ((ab ((c.blocks.getD b default).ins.getD k default)).getD i 0).toNat).1;have nD:=(b5.rng (((A).getD (((k:Nat):Int)+1).toNat default).getD j 0).toNat).1;refine aF V ?_;obtain⟨k5,d2⟩:=Sv.view (OS.sv T E (i:=3) V);have nA:=fI (d2 i);obtain⟨e1,f5⟩:=Sv.view (OS.sv N E (i:=1) V);have h9:=fL (f5 (((ab ((c.blocks.getD b default).ins.getD k default)).getD i 0).toNat));refine d8 15 90 104 [] [(90,(sL U g4.length a_)),(94,(iI ((ab ((c.blocks.getD b default).ins.getD k default)).getD i 0))),(95,(sL U g4.length a_)),(96,(iI ((A.getD ((k:Int)+1).toNat default).getD j 0))),(103,(sL (cA (e1 (((ab ((c.blocks.getD b default).ins.getD k default)).getD i 0).toNat)) 0) (g4.getD (((ab ((c.blocks.getD b default).ins.getD k default)).getD i 0).toNat) default).length (cK (e1 (((ab ((c.blocks.getD b default).ins.getD k default)).getD i 0).toNat)) 0))),(104,(iI ((A.getD ((k:Int)+1).toNat default).getD j 0)))] (Ha_ (Sv.ix (j:=(i:Int)) (OS.sv T E (i:=3) V)) (Hl_ 4 (ql 3 0 (hc0 (vI (d2 i))) V V) (Ha_ (Sv.ix (j:=(i:Int)) (OS.sv T E (i:=3) V)) (Hl_ 11 (ql 3 0 (hc0 (vI (d2 i))) V V) (Ha_ (Sv.ix (j:=((ab ((c.blocks.getD b default).ins.getD k default)).getD i 0)) (OS.sv N E (i:=1) V)) (Hl_ 13 (ql 22 0 (hc0 (vL (f5 (((ab ((c.blocks.getD b default).ins.getD k default)).getD i 0).toNat)))) V V) Hn_)))))) E V V fun _=>aN (W:=[]) (aq V V V) V V V (m6.dG ex (g4.getD (((ab ((c.blocks.getD b default).ins.getD k default)).getD i 0).toNat) default) ((A.getD ((k:Int)+1).toNat default).getD j 0) (HS.call E.log0) h9 M z M) (⟨.inl V,⟨.inl V,⟨.inl V,⟨.inl V,⟨.inl V,⟨.inl V,⟨.inl V,⟨.inl V,⟨.inr trivial,⟨.inr trivial,⟨.inr trivial,⟨.inr trivial,⟨.inr trivial,⟨.inr trivial,⟨.inr trivial,trivial⟩⟩⟩⟩⟩⟩⟩⟩⟩⟩⟩⟩⟩⟩⟩) ?_
      rintro _ hV ⟨hr,hF,nI,mY,ch,Z,rfl,c0,rfl⟩;refine⟨Wr.did Z.log,fun hH f9=>?_⟩;replace Z:=HS.back E.log0 V Z;replace Z:=HS.lg Z E f9;generalize ({hV with log:=hH}:Heap)=kn at Z⊢;replace z:=z.mono ch;replace T:=T.mono ch;replace N:=N.mono ch;obtain⟨e2,f6⟩:=Sv.view (OS.sv N Z (i:=1) V);have ib:=fL (f6 (((A.getD ((k:Int)+1).toNat default).getD j 0).toNat));obtain⟨k6,f7⟩:=Sv.view (OS.sv T Z (i:=3) V);have nB:=fI (f7 i);refine d8 8 106 113 [] [(109,(sL (cA (e2 (((A.getD ((k:Int)+1).toNat default).getD j 0).toNat)) 0) (g4.getD (((A.getD ((k:Int)+1).toNat default).getD j 0).toNat) default).length (cK (e2 (((A.getD ((k:Int)+1).toNat default).getD j 0).toNat)) 0))),(113,(iI ((ab ((c.blocks.getD b default).ins.getD k default)).getD i 0)))] (Ha_ (Sv.ix (j:=((A.getD ((k:Int)+1).toNat default).getD j 0)) (OS.sv N Z (i:=1) V)) (Hl_ 19 (ql 22 0 (hc0 (vL (f6 (((A.getD ((k:Int)+1).toNat default).getD j 0).toNat)))) V V) (Ha_ (Sv.ix (j:=(i:Int)) (OS.sv T Z (i:=3) V)) (Hl_ 23 (ql 3 0 (hc0 (vI (f7 i))) V V) Hn_)))) Z V V fun _=>aN (W:=[]) (aq V V V) V V V (m6.dG ex (g4.getD (((A.getD ((k:Int)+1).toNat default).getD j 0).toNat) default) ((ab ((c.blocks.getD b default).ins.getD k default)).getD i 0) (HS.call Z.log0) ib M z M) (⟨.inl V,⟨.inl V,⟨.inl V,⟨.inl V,⟨.inl V,⟨.inl V,⟨.inl V,⟨.inl V,⟨.inl V,⟨.inl V,⟨.inl V,⟨.inl V,⟨.inl V,⟨.inl V,⟨.inl V,⟨.inl V,⟨.inl V,⟨.inr trivial,⟨.inr trivial,⟨.inr trivial,⟨.inr trivial,⟨.inr trivial,⟨.inr trivial,⟨.inr trivial,trivial⟩⟩⟩⟩⟩⟩⟩⟩⟩⟩⟩⟩⟩⟩⟩⟩⟩⟩⟩⟩⟩⟩⟩⟩) ?_
      rintro _ hW ⟨ht,hG,nJ,mZ,dn,ay,rfl,g6,rfl⟩;refine⟨Wr.did ay.log,fun hI go=>?_⟩;replace ay:=HS.back Z.log0 V ay;replace ay:=HS.lg ay Z go;generalize ({hW with log:=hI}:Heap)=ko at ay⊢;replace c0:=c0.mono dn;replace N:=N.mono dn;refine zy (List Int) ((ab ((c.blocks.getD b default).ins.getD k default)).getD i 0) (OS.sv N ay.log0 (i:=1) V) (gz (id:= .x (ax.map Prod.fst)) (cy (α:=(List Int)) (j:=((ab ((c.blocks.getD b default).ins.getD k default)).getD i 0).toNat) (off:=0) (q:=1) (dJ (g4.getD (((ab ((c.blocks.getD b default).ins.getD k default)).getD i 0).toNat) default) ((A.getD ((k:Int)+1).toNat default).getD j 0)) N ay.log0 V V V V V V V V (aT (x:=default) M) V (by rintro cs ⟨_,_,rfl,_⟩;exact⟨a06 V,⟨hr,hF,V,c0⟩⟩)) V (by rintro _ _ hg ⟨ci,_,al⟩;exact dK V V (Wr.did al)) (kb V) ?_);rintro _ hX hg ⟨ci,bl,_⟩ hJ g0;replace bl:=HS.lg bl ay g0;generalize ({hX with log:=hJ}:Heap)=kr at bl⊢;have kd:=OS.len' ci;refine zy (List Int) ((A.getD ((k:Int)+1).toNat default).getD j 0) (OS.sv ci bl.log0 (i:=1) V) (gz (id:= .x (hg.map Prod.fst)) (cy (α:=(List Int)) (j:=((A.getD ((k:Int)+1).toNat default).getD j 0).toNat) (off:=0) (q:=1) (dJ (g4.getD (((A.getD ((k:Int)+1).toNat default).getD j 0).toNat) default) ((ab ((c.blocks.getD b default).ins.getD k default)).getD i 0)) ci bl.log0 V V V V V V V V (aT (x:=default) M) V (by rintro cs ⟨_,_,rfl,_⟩;exact⟨a06 V,⟨ht,hG,V,g6⟩⟩)) V (by rintro _ _ hl ⟨co,_,al⟩;exact dK V V (Wr.did al)) (kb V) ?_);rintro _ hY hl ⟨co,c3,_⟩ hK g5;replace c3:=HS.lg c3 bl g5;generalize ({hY with log:=hK}:Heap)=kt at c3⊢;have ki:=OS.len' co;refine bB 2 V (wU 1 [] 62 63 [10] [(10,(iI ((j:Int)+1)))] (vi (n:=(j:Int)+1)) V fun _=>?_);refine f8 _ _ _ ?_ ⟨(g4.set (((ab ((c.blocks.getD b default).ins.getD k default)).getD i 0).toNat) (dJ (g4.getD (((ab ((c.blocks.getD b default).ins.getD k default)).getD i 0).toNat) default) ((A.getD ((k:Int)+1).toNat default).getD j 0))).set (((A.getD ((k:Int)+1).toNat default).getD j 0).toNat) (dJ (g4.getD (((A.getD ((k:Int)+1).toNat default).getD j 0).toNat) default) ((ab ((c.blocks.getD b default).ins.getD k default)).getD i 0)),j+1,U,a_,hl,_,(fT (fT (bk) ch) dn),c3,(OS.norm co),(agC V (agC (show Value.slice U g4.length a_=Value.slice U ((g4.set (((ab ((c.blocks.getD b default).ins.getD k default)).getD i 0).toNat) (dJ (g4.getD (((ab ((c.blocks.getD b default).ins.getD k default)).getD i 0).toNat) default) ((A.getD ((k:Int)+1).toNat default).getD j 0))).set (((A.getD ((k:Int)+1).toNat default).getD j 0).toNat) (dJ (g4.getD (((A.getD ((k:Int)+1).toNat default).getD j 0).toNat) default) ((ab ((c.blocks.getD b default).ins.getD k default)).getD i 0))).length a_ by rw[OS.len' co]) ⟨V,V,V,V,V,V,V,trivial⟩)),V,(rl_yes vF M b5 dl no nK),M⟩;omega
     try simp only[BS]at c5
     have ds:=c5;have dl: ¬eok c b k ((ab ((c.blocks.getD b default).ins.getD k default)).getD i 0) (((A).getD (((k:Nat):Int)+1).toNat default).getD j 0):=fun h=>by(have h1:=h.1;have h2:=h.2;simp_all)
     refine wU 1 [] 62 63 [10] [(10,(iI ((j:Int)+1)))] (vi (n:=(j:Int)+1)) V fun _=>?_
     refine f8 _ _ _ ?_ ⟨g4,j+1,U,a_,ax,_,(bk),E,N,⟨V,V,V,V,V,V,V,V,V,trivial⟩,V,(rl_no M b5 dl),M⟩;omega
    refine wU 1 [] 54 55 [9] [(9,(iI ((i:Int)+1)))] (vi (n:=(i:Int)+1)) V fun _=>?_
    refine hE _ _ _ ?_ ⟨g4,i+1,U,a_,ax,_,(fT (b3) bk),E,N,⟨V,V,V,V,V,V,V,V,trivial⟩,V,(b5.iff (e2s_iff pt (show i<(ab ((c.blocks.getD b default).ins.getD k default)).length by omega) M)),M⟩;omega
   refine wU 1 [] 37 38 [6] [(6,(iI ((k:Int)+1)))] (vi (n:=(k:Int)+1)) V fun _=>?_
   refine hD _ _ _ ?_ ⟨g3,k+1,a1,a3,a5,_,(fT (fT (b2) cc) b3),(HS.sub fi (a02 _ _)),c9,⟨V,V,V,V,V,trivial⟩,V,(he.iff (e1s_iff (show(ab ((c.blocks.getD b default).ins.getD k default)).length<=i by omega))),M⟩;omega
  refine wU 1 [] 23 24 [4] [(4,(iI ((b:Int)+1)))] (vi (n:=(b:Int)+1)) V fun _=>?_
  refine hC _ _ _ ?_ ⟨g2,b+1,a0,a2,a4,_,(fT (fT (b8) b9) b2),ar,a7,⟨V,V,V,trivial⟩,V,(ha.iff (e0_iff (show(c.blocks.getD b default).ins.length=k by omega))),M⟩;omega
 refine wT 1 [] 2 2 [117] [(2,(sL av g1.length aw))] V fun _=>?_
 obtain⟨m0,hu,hB,hw,l0⟩:=OS.frz a6 b4 (i:=1) V;refine am ⟨.inr V,_,V,av,aw,g1,_,(fT (fT (d4) b8) hu),(HS.forget hB),V,hw,(fun _=>rl_fin M hb g9),(fun h=>absurd (hv.symm.trans h) e_)⟩
theorem ruses_c{bb:Option Addr}{bl:Nat}(c:VFnT)(hs:HS (.of H []) F H [] R)(k4:in64 c.params)(k5:in64 c.regs)(A:SR F (sL bb c.blocks.length bl) c.blocks)(hT:TB 37 tabC F)(ck: ∀j,(c.blocks.getD j default).ins.length<=1073741822):kKt ex 19 [(aG [(iI c.params),(iI c.regs),(sL bb c.blocks.length bl)])] H fun v H'=> ∃(ao:Option Addr) (ko:Nat) (o:List Int) (F':Fz),Fz.le F F'/\HS (.of H []) F' H' [] R/\v=sL ao o.length ko/\SR F' (sL ao o.length ko) o/\(bT c=true->CntF c (usedC c) o)/\(bT c=false->o=[]):=by
 refine aC Tryd.func19 V V (aj 1 V (aa (aV (aO hs V V) V V ?_)));rintro _ H2 _ ⟨b1,rfl,ea,_⟩;refine za (sL none 0 0) (ae 3 V (aa (bn 1 0 10 10 [] [(10,(aG [(iI c.params),(iI c.regs),(sL bb c.blocks.length bl)]))] (Hr_ 0 0 Hn_) ea V V fun _=>zc (m3.eQ ex c (HS.call ea) M M A hT (fun j=>a0e (ck j) M)) ?_)));rintro _ H4 ⟨r4,F4,c7,b5,rfl,rfl⟩;replace b5:=HS.back ea V b5;replace hT:=hT.mono c7;replace A:=A.mono c7;refine cj 1 2 12 12 [] [(12,(.bool (!(bT c))))] Hn_ (by kernel_rfl) V fun _=>ae 1 V (zi 1 2 (fun c6=>?_) fun c6=>?_)
 ·try simp only[BS]at c6
  have hv:=c6;refine wT 1 [] 2 2 [] [(2,(sL none 0 0))] V fun _=>am ⟨.inr V,_,V,none,0,([]:List Int),_,(c7),(HS.forget b5),V,(SR.nil:SR F4 (sL none 0 0) ([]:List Int)),(fun h=>absurd (h.symm.trans hv) e_),(fun _=>rfl)⟩
 try simp only[BS]at c6
 have hv:=c6;have vF:=eU hv;have od:=vF.nb;have oe:=vF.regs;have g0: ∀j,(bh c j).ins.length<=1073741824:=fun j=>a0e (ck j) M
 refine aa (bn 2 0 13 14 [] [(14,(iI c.regs))] (Hr_ 1 0 Hn_) b5 V V fun _=>aV (cG (0:Int) b5 V V V V V V V V V ⟨V,by decide⟩ M M) V V ?_);rintro _ l9 p9 ⟨a9,k9,rfl,hF,g6,_⟩;let dd:Fp:=(fP b1 [(iI c.params),(iI c.regs),(sL bb c.blocks.length bl)])
 refine za (sL a9 (List.replicate c.regs.toNat (0:Int)).length k9) (ae 3 V (wT 2 [] 1 0 [4] [(4,(iI 0))] V fun _=>ah (fun(mm:Nat) f H'=> ∃(o1:List Int) (b:Nat) (Z:Option Addr) (ag:Nat) (a5:Fp) (F':Fz),Fz.le F4 F'/\HS (Base.of H []) F' H' [dd,a5] R/\OS F' (sL Z o1.length ag) o1 a5/\aA f [(1,(pT b1 0)),(3,(sL Z o1.length ag)),(4,(iI (b:Int)))]/\mm=c.blocks.length-b/\(CntF c (UsP c b 0 []) o1)/\(b<=c.blocks.length)) _ ⟨List.replicate c.regs.toNat (0:Int),0,a9,k9,p9,_,fR,g6,hF,⟨V,V,V,trivial⟩,V,(jG),M⟩ ?_));rintro la m0 mk ⟨o1,b,Z,ag,a5,hm,bz,co,b6,d1,rfl,c1,hb⟩ he;refine ap _ d1 (fun _=>?_);clear d1;replace hT:=hT.mono bz;replace A:=A.mono bz;refine aj 2 V (bF 1 16 20 [] [(20,(.bool (decide ((b:Int)<(c.blocks.length:Int)))))] (Hr_ 2 0 Hn_) co V V fun _=>zd 5 5 (fun hB=>?_) fun hB=>?_)
 ·have b0:b<c.blocks.length:=M
  have ob:=ck b;have oc:(ei (c.blocks.getD b default)).length<=1:=by unfold ei;split<;>simp
  refine wT 2 [] 1 0 [5] [(5,(iI 0))] V fun _=>ah (fun(mm:Nat) f H'=> ∃(o2:List Int) (k:Nat) (ar:Option Addr) (ax:Nat) (ay:Fp) (F':Fz),Fz.le hm F'/\HS (Base.of H []) F' H' [dd,ay] R/\OS F' (sL ar o2.length ax) o2 ay/\aA f [(1,(pT b1 0)),(3,(sL ar o2.length ax)),(4,(iI (b:Int))),(5,(iI (k:Int)))]/\mm=(c.blocks.getD b default).ins.length-k/\(CntF c (UsP c b k []) o2)/\(k<=(c.blocks.getD b default).ins.length)) _ ⟨o1,0,Z,ag,a5,_,fR,co,b6,⟨V,V,V,V,trivial⟩,V,M,M⟩ ?_
  rintro lf m7 mx ⟨o2,k,ar,ax,ay,l1,b2,E,ad,d2,rfl,c2,hk⟩ hf;refine ap _ d2 (fun _=>?_);clear d2;replace hT:=hT.mono b2;replace A:=A.mono b2;refine aj 2 V ?_;obtain⟨kr,et⟩:=Sv.view (SR.sv A E);obtain⟨hS,hV,hW,hX,kc⟩:=BlkT.fx (et b);refine bF 1 23 31 [] [(31,(.bool (decide ((k:Int)<((c.blocks.getD b default).ins.length:Int)))))] (Hr_ 2 0 (Ha_ (Sv.ix (j:=(b:Int)) (SR.sv A E)) (Hl_ 6 (ql 41 0 (BlkT.vw (et b)) V V) Hn_))) E V V fun _=>zd 4 5 (fun hC=>?_) fun hC=>?_
  ·have ks:k<(c.blocks.getD b default).ins.length:=M
   have lx:(∀x∈aI ((c.blocks.getD b default).ins.getD k default),0<=x/\x<c.regs)/\(∀x∈ab ((c.blocks.getD b default).ins.getD k default),0<=x/\x<c.regs)/\((c.blocks.getD b default).ins.getD k default).args.length<=6:=bx (vF.ins b b0 k ks);have og:=ey (v:=((c.blocks.getD b default).ins.getD k default));have oh:=dN (v:=((c.blocks.getD b default).ins.getD k default));have oa:(aI ((c.blocks.getD b default).ins.getD k default)++ab ((c.blocks.getD b default).ins.getD k default)).length=(aI ((c.blocks.getD b default).ins.getD k default)).length+(ab ((c.blocks.getD b default).ins.getD k default)).length:=a04;have nO: ∀x∈(aI ((c.blocks.getD b default).ins.getD k default)++ab ((c.blocks.getD b default).ins.getD k default)),0<=x/\x<c.regs:=fun x hx=>(a08.1 hx).elim (lx.1 x) (lx.2.1 x)
   refine aF V ?_;obtain⟨kt,ez⟩:=Sv.view (SR.sv A E);obtain⟨hY,h0,h1,h2,c8⟩:=BlkT.fx (ez b);obtain⟨dn,e0⟩:=Sv.view (SR.sv c8 E);obtain⟨h3,h4,h5,h6,h7,f6⟩:=VInT.fx (e0 k);refine d8 9 34 42 [] [(42,(aG [(iI ((c.blocks.getD b default).ins.getD k default).i.op),(iI ((c.blocks.getD b default).ins.getD k default).i.a),(iI ((c.blocks.getD b default).ins.getD k default).i.b),(iI ((c.blocks.getD b default).ins.getD k default).i.c),(iI ((c.blocks.getD b default).ins.getD k default).i.n),(sL (cA (dn k) 5) ((c.blocks.getD b default).ins.getD k default).args.length (cK (dn k) 5))]))] (Hr_ 1 0 (Ha_ (Sv.ix (j:=(b:Int)) (SR.sv A E)) (Hl_ 5 (ql 41 0 (hc0 (BlkT.vw (ez b))) V V) (Ha_ (Sv.ix (j:=(k:Int)) (SR.sv c8 E)) (Hl_ 8 (qn 47 0 6 (hc0 (VInT.vw (e0 k))) V V V V) Hn_))))) E V V fun _=>aN (W:=[]) (aq V V V) V V V (ma.l5 ex ((c.blocks.getD b default).ins.getD k default) (HS.call E.log0) M M M M M f6 hT M) (kb V) ?_
   rintro _ hu ⟨kl,k7,nn,f9,b3,a2,rfl,f4,rfl⟩;refine⟨Wr.did a2.log,fun hj f2=>?_⟩;replace a2:=HS.back E.log0 V a2;replace a2:=HS.lg a2 E f2;generalize ({hu with log:=hj}:Heap)=kd at a2⊢;replace hT:=hT.mono b3;replace A:=A.mono b3;have em:=HS.snoc a2;refine zad 2 (OS.nil:OS f9 (sL none 0 0) ([]:List Int) []) em (SR.sv f4 em) V V V M (kb V) fun hz hG hI kg bk al=>?_
   have bk:OS f9 (sL hz (aI ((c.blocks.getD b default).ins.getD k default)).length hG) (aI ((c.blocks.getD b default).ins.getD k default)) hI:=bk;refine zp 2 (aK (v:=(sL bb c.blocks.length bl)) (id:= .l b1) (cW (i:=2) V V (HS.hc al.log0 (i:=0) V) V V) V V (cP V) (⟨.inl V,⟨.inr a0d,⟨.inr a0d,⟨.inr trivial,⟨.inr trivial,⟨.inr trivial,⟨.inr trivial,⟨.inr trivial,⟨.inr trivial,⟨.inr trivial,⟨.inr trivial,⟨.inr trivial,trivial⟩⟩⟩⟩⟩⟩⟩⟩⟩⟩⟩⟩) ?_);obtain⟨kx,e1⟩:=Sv.view (SR.sv A al);obtain⟨h8,h9,ib,ih,c9⟩:=BlkT.fx (e1 b);obtain⟨ds,e2⟩:=Sv.view (SR.sv c9 al);obtain⟨ik,il,it,iv,iz,f7⟩:=VInT.fx (e2 k);refine d8 7 47 53 [] [(53,(aG [(iI ((c.blocks.getD b default).ins.getD k default).i.op),(iI ((c.blocks.getD b default).ins.getD k default).i.a),(iI ((c.blocks.getD b default).ins.getD k default).i.b),(iI ((c.blocks.getD b default).ins.getD k default).i.c),(iI ((c.blocks.getD b default).ins.getD k default).i.n),(sL (cA (ds k) 5) ((c.blocks.getD b default).ins.getD k default).args.length (cK (ds k) 5))]))] (Ha_ (Sv.ix (j:=(b:Int)) (SR.sv A al)) (Hl_ 16 (ql 41 0 (hc0 (BlkT.vw (e1 b))) V V) (Ha_ (Sv.ix (j:=(k:Int)) (SR.sv c9 al)) (Hl_ 19 (qn 47 0 6 (hc0 (VInT.vw (e2 k))) V V V V) Hn_)))) al V V fun _=>aN (W:=[]) (aq V V V) V V V (ma.jW ex ((c.blocks.getD b default).ins.getD k default) (HS.call al.log0) M M M M M f7 hT) (kb V) ?_
   rintro _ hw ⟨kn,k8,np,hJ,hn,b8,an,rfl,f5,rfl⟩;refine⟨Wr.did an.log,fun hl f3=>?_⟩;replace an:=HS.back al.log0 V an;replace an:=HS.lg an al f3;generalize ({hw with log:=hl}:Heap)=ki at an⊢;replace bk:=bk.mono b8;replace ad:=(ad.mono b3).mono b8;refine zad 2 bk an (OS.sv f5 an (i:=3) V) V V V M (kb V) fun go g3 hK kk b4 g7=>fa (sL go ((aI ((c.blocks.getD b default).ins.getD k default))++(ab ((c.blocks.getD b default).ins.getD k default))).length g3) V V V (bB 2 V (wT 2 [] 1 0 [7] [(7,(iI 0))] V fun _=>ah (fun(mm:Nat) f H'=> ∃(z:List Int) (p:Nat) (N:Option Addr) (U:Nat) (a6:Fp) (F':Fz),Fz.le hn F'/\HS (Base.of H []) F' H' [dd,a6,hK,hJ] R/\OS F' (sL N z.length U) z a6/\aA f [(1,(pT b1 0)),(3,(sL N z.length U)),(4,(iI (b:Int))),(5,(iI (k:Int))),(6,(sL go ((aI ((c.blocks.getD b default).ins.getD k default))++(ab ((c.blocks.getD b default).ins.getD k default))).length g3)),(7,(iI (p:Int)))]/\mm=(aI ((c.blocks.getD b default).ins.getD k default)++ab ((c.blocks.getD b default).ins.getD k default)).length-p/\(CntF c (UsP c b k ((aI ((c.blocks.getD b default).ins.getD k default)++ab ((c.blocks.getD b default).ins.getD k default)).take p)) z)/\(p<=(aI ((c.blocks.getD b default).ins.getD k default)++ab ((c.blocks.getD b default).ins.getD k default)).length)) _ ⟨o2,0,ar,ax,ay,_,fR,g7,ad,⟨V,V,V,V,V,V,trivial⟩,V,(c2),M⟩ ?_))
   rintro ll m8 mI ⟨z,p,N,U,a6,l2,b9,a3,av,d3,rfl,c3,hp⟩ hg;refine ap _ d3 (fun _=>?_);clear d3;replace b4:=b4.mono b9;refine aj 2 V (wT 1 [] 56 59 [] [(59,(.bool (decide ((p:Int)<(((aI ((c.blocks.getD b default).ins.getD k default))++(ab ((c.blocks.getD b default).ins.getD k default))).length:Int)))))] V fun _=>zd 3 5 (fun hD=>?_) fun hD=>?_)
   ·have ld:p<(aI ((c.blocks.getD b default).ins.getD k default)++ab ((c.blocks.getD b default).ins.getD k default)).length:=M
    have g1:=dm nO ld;have nk:=cnt_rng c3 g1 (us_len vF g0 b0 (by rw[a0k];omega));refine aa ?_;obtain⟨ky,e3⟩:=Sv.view (OS.sv b4 a3 (i:=2) V);have ne:=fI (e3 p);obtain⟨kz,e4⟩:=Sv.view (OS.sv av a3 (i:=1) V);have ng:=fI (e4 ((((aI ((c.blocks.getD b default).ins.getD k default))++(ab ((c.blocks.getD b default).ins.getD k default))).getD p 0).toNat));refine cj 9 0 62 70 [] [(69,(iI ((z.getD ((((aI ((c.blocks.getD b default).ins.getD k default))++(ab ((c.blocks.getD b default).ins.getD k default))).getD p 0).toNat) 0)+1))),(70,(.pointer (some ⟨sB (sL N z.length U),sO (sL N z.length U)+((((aI ((c.blocks.getD b default).ins.getD k default))++(ab ((c.blocks.getD b default).ins.getD k default))).getD p 0).toNat) *Rp.sz Int,none⟩)))] (Ha_ (Sv.ix (j:=(p:Int)) (OS.sv b4 a3 (i:=2) V)) (Hl_ 4 (ql 3 0 (vI (e3 p)) V V) (Ha_ (Sv.ix (j:=(((aI ((c.blocks.getD b default).ins.getD k default))++(ab ((c.blocks.getD b default).ins.getD k default))).getD p 0)) (OS.sv av a3 (i:=1) V)) (Hl_ 6 (ql 3 0 (vI (e4 ((((aI ((c.blocks.getD b default).ins.getD k default))++(ab ((c.blocks.getD b default).ins.getD k default))).getD p 0).toNat))) V V) (Ha_ (vi (n:=(z.getD ((((aI ((c.blocks.getD b default).ins.getD k default))++(ab ((c.blocks.getD b default).ins.getD k default))).getD p 0).toNat) 0)+1)) (Ha_ (Sv.ix (j:=(((aI ((c.blocks.getD b default).ins.getD k default))++(ab ((c.blocks.getD b default).ins.getD k default))).getD p 0)) (OS.sv av a3 (i:=1) V)) Hn_)))))) (by kernel_rfl) V fun _=>d5 (cy (α:=Int) (j:=(((aI ((c.blocks.getD b default).ins.getD k default))++(ab ((c.blocks.getD b default).ins.getD k default))).getD p 0).toNat) (off:=0) (q:=1) ((z.getD ((((aI ((c.blocks.getD b default).ins.getD k default))++(ab ((c.blocks.getD b default).ins.getD k default))).getD p 0).toNat) 0)+1) av a3 V V V V V V V V (aT (x:=(0:Int)) M) V (by rintro cs ⟨rfl,_⟩;exact⟨a06 V,V,by omega⟩)) V ?_
    rintro _ mW hM ⟨ch,g8,_⟩;have jq:=OS.len' ch;refine ae 2 V (wU 1 [] 60 61 [7] [(7,(iI ((p:Int)+1)))] (vi (n:=(p:Int)+1)) V fun _=>?_);refine hg _ _ _ ?_ ⟨z.set ((((aI ((c.blocks.getD b default).ins.getD k default))++(ab ((c.blocks.getD b default).ins.getD k default))).getD p 0).toNat) ((z.getD ((((aI ((c.blocks.getD b default).ins.getD k default))++(ab ((c.blocks.getD b default).ins.getD k default))).getD p 0).toNat) 0)+1),p+1,N,U,hM,_,(b9),g8,(OS.norm ch),(agC V (agC (show Value.slice N z.length U=Value.slice N (z.set ((((aI ((c.blocks.getD b default).ins.getD k default))++(ab ((c.blocks.getD b default).ins.getD k default))).getD p 0).toNat) ((z.getD ((((aI ((c.blocks.getD b default).ins.getD k default))++(ab ((c.blocks.getD b default).ins.getD k default))).getD p 0).toNat) 0)+1)).length U by rw[OS.len' ch]) ⟨V,V,V,V,trivial⟩)),V,(by rw[bK (d:=0) ld];exact cnt_step c3 g1),M⟩;omega
   refine wU 1 [] 32 33 [5] [(5,(iI ((k:Int)+1)))] (vi (n:=(k:Int)+1)) V fun _=>?_
   refine hf _ _ _ ?_ ⟨z,k+1,N,U,a6,_,(fT (fT (fT (b2) b3) b8) b9),(HS.sub a3 (a02 _ _)),av,⟨V,V,V,V,trivial⟩,V,(by rw[a0h (show(aI ((c.blocks.getD b default).ins.getD k default)++ab ((c.blocks.getD b default).ins.getD k default)).length<=p by omega)]at c3;exact us_instr ks▸c3),M⟩;omega
  refine aa ?_;obtain⟨dt,e5⟩:=Sv.view (SR.sv A E);obtain⟨i2,i3,ja,jb,f8⟩:=BlkT.fx (e5 b);refine bn 5 0 71 75 [] [(75,(aG [(sL (cA (dt b) 0) (c.blocks.getD b default).ins.length (cK (dt b) 0)),(iI (c.blocks.getD b default).fin),(iI (c.blocks.getD b default).reg),(iI (c.blocks.getD b default).tgt),(iI (c.blocks.getD b default).els)]))] (Hr_ 1 0 (Ha_ (Sv.ix (j:=(b:Int)) (SR.sv A E)) (Hl_ 4 (qn 43 0 5 (BlkT.vw (e5 b)) V V V V) Hn_))) E V V fun _=>zc (ma.rend_c ex (c.blocks.getD b default) (HS.call E) f8 M M M M hT) ?_
  rintro _ mX ⟨dk,fi,nq,hQ,ht,dv,c0,rfl,a8,rfl⟩;replace c0:=HS.back E V c0;replace ad:=ad.mono dv;refine za (sL dk (ei (c.blocks.getD b default)).length fi) (ae 2 V (wT 2 [] 1 0 [9] [(9,(iI 0))] V fun _=>ah (fun(mm:Nat) f H'=> ∃(o4:List Int) (q:Nat) (T:Option Addr) (a_:Nat) (a7:Fp) (F':Fz),Fz.le ht F'/\HS (Base.of H []) F' H' [dd,a7,hQ] R/\OS F' (sL T o4.length a_) o4 a7/\aA f [(1,(pT b1 0)),(3,(sL T o4.length a_)),(4,(iI (b:Int))),(8,(sL dk (ei (c.blocks.getD b default)).length fi)),(9,(iI (q:Int)))]/\mm=(ei (c.blocks.getD b default)).length-q/\(CntF c (UsP c b (c.blocks.getD b default).ins.length ((ei (c.blocks.getD b default)).take q)) o4)/\(q<=(ei (c.blocks.getD b default)).length)) _ ⟨o2,0,ar,ax,ay,_,fR,c0,ad,⟨V,V,V,V,V,trivial⟩,V,(by rw[←(show k=(c.blocks.getD b default).ins.length by omega)];exact c2),M⟩ ?_));rintro lr m9 mY ⟨o4,q,T,a_,a7,l3,cc,a4,aw,d4,rfl,c4,hq⟩ hh;refine ap _ d4 (fun _=>?_);clear d4;replace a8:=a8.mono cc;refine aj 2 V (wT 1 [] 77 80 [] [(80,(.bool (decide ((q:Int)<((ei (c.blocks.getD b default)).length:Int)))))] V fun _=>zd 3 5 (fun hE=>?_) fun hE=>?_)
  ·have li:q<(ei (c.blocks.getD b default)).length:=M
   have g2:0<=(ei (c.blocks.getD b default)).getD q 0/\(ei (c.blocks.getD b default)).getD q 0<c.regs:=dm (end_rng vF b0) li;have nm:=cnt_rng c4 g2 (us_len vF g0 b0 (by rw[a0k];omega));refine aa ?_;obtain⟨k0,e6⟩:=Sv.view (OS.sv a8 a4 (i:=2) V);have nh:=fI (e6 q);obtain⟨k3,fd⟩:=Sv.view (OS.sv aw a4 (i:=1) V);have nj:=fI (fd ((ei (c.blocks.getD b default)).getD q 0).toNat);refine cj 9 0 83 91 [] [(90,(iI ((o4.getD ((ei (c.blocks.getD b default)).getD q 0).toNat 0)+1))),(91,(.pointer (some ⟨sB (sL T o4.length a_),sO (sL T o4.length a_)+((ei (c.blocks.getD b default)).getD q 0).toNat *Rp.sz Int,none⟩)))] (Ha_ (Sv.ix (j:=(q:Int)) (OS.sv a8 a4 (i:=2) V)) (Hl_ 4 (ql 3 0 (vI (e6 q)) V V) (Ha_ (Sv.ix (j:=((ei (c.blocks.getD b default)).getD q 0)) (OS.sv aw a4 (i:=1) V)) (Hl_ 6 (ql 3 0 (vI (fd ((ei (c.blocks.getD b default)).getD q 0).toNat)) V V) (Ha_ (vi (n:=(o4.getD ((ei (c.blocks.getD b default)).getD q 0).toNat 0)+1)) (Ha_ (Sv.ix (j:=((ei (c.blocks.getD b default)).getD q 0)) (OS.sv aw a4 (i:=1) V)) Hn_)))))) (by kernel_rfl) V fun _=>d5 (cy (α:=Int) (j:=((ei (c.blocks.getD b default)).getD q 0).toNat) (off:=0) (q:=1) ((o4.getD ((ei (c.blocks.getD b default)).getD q 0).toNat 0)+1) aw a4 V V V V V V V V (aT (x:=(0:Int)) M) V (by rintro cs ⟨rfl,_⟩;exact⟨a06 V,V,by omega⟩)) V ?_
   rintro _ mZ hR ⟨ci,g9,_⟩;have jw:=OS.len' ci;refine ae 2 V (wU 1 [] 81 82 [9] [(9,(iI ((q:Int)+1)))] (vi (n:=(q:Int)+1)) V fun _=>?_);refine hh _ _ _ ?_ ⟨o4.set ((ei (c.blocks.getD b default)).getD q 0).toNat ((o4.getD ((ei (c.blocks.getD b default)).getD q 0).toNat 0)+1),q+1,T,a_,hR,_,(cc),g9,(OS.norm ci),(agC V (agC (show Value.slice T o4.length a_=Value.slice T (o4.set ((ei (c.blocks.getD b default)).getD q 0).toNat ((o4.getD ((ei (c.blocks.getD b default)).getD q 0).toNat 0)+1)).length a_ by rw[OS.len' ci]) ⟨V,V,V,trivial⟩)),V,(by rw[bK (d:=0) li];exact cnt_step c4 g2),M⟩;omega
  refine wU 1 [] 21 22 [4] [(4,(iI ((b:Int)+1)))] (vi (n:=(b:Int)+1)) V fun _=>?_
  refine he _ _ _ ?_ ⟨o4,b+1,T,a_,a7,_,(fT (fT (fT (bz) b2) dv) cc),(HS.sub a4 (a02 _ _)),aw,⟨V,V,V,trivial⟩,V,(by rw[a0h (show(ei (c.blocks.getD b default)).length<=q by omega)]at c4;exact us_block b0▸c4),M⟩;omega
 refine wT 1 [] 2 2 [92] [(2,(sL Z o1.length ag))] V fun _=>?_
 obtain⟨l4,g4,ha,g5,k6⟩:=OS.frz b6 co (i:=1) V;refine am ⟨.inr V,_,V,Z,ag,o1,_,(fT (fT (c7) bz) g4),(HS.forget ha),V,g5,(fun _=>us_all (c:=c) (k:=b) M▸c1),(fun h=>absurd (hv.symm.trans h) e_)⟩
end Go.Proofs.YtgdggmlghemecaaDoor.ni
