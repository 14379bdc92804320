/-
 The reference interference graph and use counts, by symbolic runs. No condition but bounds on lengths.
-/
import Derived.Test.YtknafdcgpaejlaaDoorZKNC
noncomputable section
namespace Go.Proofs.YtknafdcgpaejlaaDoor.ni
open Go.R
set_option maxRecDepth 10000
set_option linter.unusedVariables false
set_option linter.unusedSimpArgs false
variable (ex:FuncId) {F:Fz} {H:Heap} {R:List Fp}
open m1 m2 m3 m4 m5 m6 ma ml mb mc md mf mg mh mi mj na nb nc
theorem e0_iff{c:VFnT}{k n:Nat}(hn:(bL c k).ins.length=n)(a x:Nat):E1 c k n a x↔E0 c (k+1) a x:=by
 unfold E1 E0;constructor
 ·rintro(⟨b,i,E,A⟩|⟨i,E,A⟩)
  ·exact⟨b,i,by omega,A⟩
  exact⟨k,i,a1l _,by omega,A⟩
 rintro⟨b,i,E,A,J⟩;rcases a0f b k with hb|hb
 ·exact .inl ⟨b,i,hb,A,J⟩
 have:b=k:=by omega
 subst this;exact .inr ⟨i,by omega,J⟩
theorem e1_iff{c:VFnT}{k:Nat}(a x:Nat):E0 c k a x↔E1 c k 0 a x:=⟨.inl,fun h=>h.elim id fun⟨i,h,_⟩=>absurd h (a0D _)⟩
theorem e1s_iff{c:VFnT}{k n q:Nat}(hq:(ab (jE c k n)).length<=q)(a x:Nat):E2 c k n q a x↔E1 c k (n+1) a x:=by
 unfold E2 E1;rw[a0j hq];constructor
 ·rintro((h|⟨i,E,A⟩)|h)
  ·exact .inl h
  ·exact .inr ⟨i,by omega,A⟩
  exact .inr ⟨n,a1l _,h⟩
 rintro(h|⟨i,E,A⟩)
 ·exact .inl (.inl h)
 rcases a0f i n with hi|hi
 ·exact .inl (.inr ⟨i,hi,A⟩)
 have:i=n:=by omega
 subst this;exact .inr A
theorem e2_iff{c:VFnT}{k n:Nat}(a x:Nat):E1 c k n a x↔E2 c k n 0 a x:=⟨.inl,fun h=>h.elim id fun h=>by simp at h⟩
theorem e2s_iff{c:VFnT}{k n q p:Nat}{l:List Int}(hl:Lst l (ptS c k (n+1)))(hq:q<(ab (jE c k n)).length)(hp:l.length<=p)(a x:Nat):E3 c k n q l p a x↔E2 c k n (q+1) a x:=by
 unfold E3 E2;rw[a0j hp,bV hq (d:=0),a07,a0d,hl.mem];have e:((x:Int)).toNat=x:=by omega
 rw[e];constructor
 ·rintro((h|⟨A,E,J⟩)|⟨A,⟨_,E⟩,J⟩)
  ·exact .inl h
  ·exact .inr ⟨.inl A,E,J⟩
  exact .inr ⟨.inr A,E,J⟩
 rintro(h|⟨A|A,E,J⟩)
 ·exact .inl (.inl h)
 ·exact .inl (.inr ⟨A,E,J⟩)
 exact .inr ⟨A,⟨by omega,E⟩,J⟩
theorem e3_iff{c:VFnT}{k n q:Nat}{l:List Int}(a x:Nat):E2 c k n q a x↔E3 c k n q l 0 a x:=⟨.inl,fun h=>h.elim id fun h=>by simp at h⟩
structure RlF(c:VFnT)(g:List (List Int))(R:Nat->Nat->Prop):Prop where
 len:g.length=c.regs.toNat
 row: ∀r,r<c.regs.toNat->Lst (g.getD r default) (Sy R r)
 rng: ∀r,(g.getD r default).length<=3000/\∀x∈g.getD r default,0<=x/\x<c.regs
theorem RlF.iff{c:VFnT}{g:List (List Int)}{R R':Nat->Nat->Prop}(h:RlF c g R)(k: ∀a x,R a x↔R' a x):RlF c g R':=⟨h.len,fun r hr=>Lst.ext (h.row r hr) fun y=>Sy.iff k r y,h.rng⟩
theorem rl_zero{c:VFnT}:RlF c (List.replicate c.regs.toNat ([]:List Int)) (E0 c 0):=by
 have e: ∀r,(List.replicate c.regs.toNat ([]:List Int)).getD r default=[]:=fun r=>by rw[a02,a1o];split<;>rfl
 refine⟨a0Q,fun r _=>?_,fun r=>?_⟩
 ·rw[e];exact Lst.nil fun y h=>by rcases h with⟨b,_,h,_⟩|⟨b,_,h,_⟩<;>exact absurd h (a0D _)
 rw[e];exact⟨a0z _,fun x hx=>by cases hx⟩
theorem rl_yes{c:VFnT}(v:VF c){g:List (List Int)}{k n q p:Nat}{l:List Int}(hp:p<l.length)(h:RlF c g (E3 c k n q l p))(hn:eok c k n ((ab (jE c k n)).getD q 0) (l.getD p 0))(ha:0<=(ab (jE c k n)).getD q 0/\(ab (jE c k n)).getD q 0<c.regs)(hx:0<=l.getD p 0/\l.getD p 0<c.regs):
  RlF c ((g.set ((ab (jE c k n)).getD q 0).toNat (db (g.getD ((ab (jE c k n)).getD q 0).toNat default) (l.getD p 0))).set (l.getD p 0).toNat (db (g.getD (l.getD p 0).toNat default) ((ab (jE c k n)).getD q 0))) (E3 c k n q l (p+1)):=by
 generalize ea:(ab (jE c k n)).getD q 0=a at*
 generalize ex:l.getD p 0=x at*
 have hl:=h.len
 have hr:=v.regs
 have hax:a.toNat≠x.toNat:=fun e=>hn.1 (by omega)
 have e: ∀r,((g.set a.toNat (db (g.getD a.toNat default) x)).set x.toNat (db (g.getD x.toNat default) a)).getD r default=if x.toNat=r then db (g.getD r default) a else if a.toNat=r then db (g.getD r default) x else g.getD r default:=fun r=>by
  rw[eb,eb];by_cases J:x.toNat=r
  ·subst J;rw[if_pos ⟨rfl,by rw[a0h];omega⟩,if_pos rfl]
  rw[if_neg (fun A=>J A.1),if_neg J];by_cases N:a.toNat=r
  ·subst N;rw[if_pos ⟨rfl,by omega⟩,if_pos rfl]
  rw[if_neg (fun A=>N A.1),if_neg N]
 have E: ∀r y,Sy (E3 c k n q l (p+1)) r y↔Sy (E3 c k n q l p) r y\/(r=a.toNat/\y=x.toNat)\/(r=x.toNat/\y=a.toNat):=fun r y=>by
  unfold Sy;rw[gS hp,gS hp,ea,ex];constructor
  ·rintro((J|⟨J,A,_⟩)|(J|⟨J,A,_⟩))
   ·exact .inl (.inl J)
   ·exact .inr (.inl ⟨by omega,by omega⟩)
   ·exact .inl (.inr J)
   exact .inr (.inr ⟨by omega,by omega⟩)
  rintro((J|J)|⟨J,A⟩|⟨J,A⟩)
  ·exact .inl (.inl J)
  ·exact .inr (.inl J)
  ·subst J A;exact .inl (.inr ⟨by omega,by omega,eok_of hn ha.1 hx.1⟩)
  subst J A;exact .inr (.inr ⟨by omega,by omega,eok_of hn ha.1 hx.1⟩)
 have R: ∀r,∀y∈((g.set a.toNat (db (g.getD a.toNat default) x)).set x.toNat (db (g.getD x.toNat default) a)).getD r default,0<=y/\y<c.regs:=fun r y hy=>by
  rw[e]at hy;split at hy
  ·rcases jo.1 hy with rfl|hy
   ·exact ha
   exact(h.rng r).2 y hy
  split at hy
  ·rcases jo.1 hy with rfl|hy
   ·exact hx
   exact(h.rng r).2 y hy
  exact(h.rng r).2 y hy
 have W: ∀r,r<c.regs.toNat->Lst (((g.set a.toNat (db (g.getD a.toNat default) x)).set x.toNat (db (g.getD x.toNat default) a)).getD r default) (Sy (E3 c k n q l (p+1)) r):=fun r hrl=>by
  rw[e];have h0:=h.row r hrl;split
  ·rename_i J;refine Lst.ext (Lst.ins h0 ha.1) fun y=>?_
   rw[E];constructor
   ·rintro(A|A)
    ·exact .inl A
    exact .inr (.inr ⟨J.symm,by omega⟩)
   rintro(A|⟨A,_⟩|⟨_,A⟩)
   ·exact .inl A
   ·exact absurd (A.symm.trans J.symm) hax
   exact .inr (by omega)
  rename_i J;split
  ·rename_i N;refine Lst.ext (Lst.ins h0 hx.1) fun y=>?_
   rw[E];constructor
   ·rintro(A|A)
    ·exact .inl A
    exact .inr (.inl ⟨N.symm,by omega⟩)
   rintro(A|⟨_,A⟩|⟨A,_⟩)
   ·exact .inl A
   ·exact .inr (by omega)
   exact absurd A.symm J
  rename_i N;refine Lst.ext h0 fun y=>?_
  rw[E];constructor
  ·exact .inl
  rintro(A|⟨A,_⟩|⟨A,_⟩)
  ·exact A
  ·exact absurd A.symm N
  exact absurd A.symm J
 refine⟨by rw[a0h,a0h];exact hl,W,fun r=>⟨?_,R r⟩⟩
 rcases a0f r c.regs.toNat with J|J
 ·have:=jA 0 hr.1 (W r J).asc (R r);omega
 rw[cb (by rw[a0h,a0h];omega)];exact a0z _
theorem rl_no{c:VFnT}{g:List (List Int)}{k n q p:Nat}{l:List Int}(hp:p<l.length)(h:RlF c g (E3 c k n q l p))(hn: ¬eok c k n ((ab (jE c k n)).getD q 0) (l.getD p 0)):RlF c g (E3 c k n q l (p+1)):=h.iff fun a x=>by rw[gS hp];exact⟨.inl,fun h=>h.elim id fun⟨E,J,A⟩=>absurd (by rw[E,J]at A;exact A) hn⟩
theorem rl_fin{c:VFnT}{g:List (List Int)}{b:Nat}(hb:c.blocks.length<=b)(A:b<=c.blocks.length)(h:RlF c g (E0 c b)):InF c g:=by
 have e:b=c.blocks.length:=by omega
 subst e;exact⟨h.len,h.row⟩
set_option maxHeartbeats 4000000 in
theorem rinter_c{a2:Option Addr}{a4:Nat}(c:VFnT)(hs:HS (.of H []) F H [] R)(lP:in64 c.params)(lQ:in64 c.regs)(an:SR F (.slice a2 c.blocks.length a4) c.blocks)(hT:TB 37 tabC F)(hins: ∀j,(c.blocks.getD j default).ins.length<=1073741822):kKt ex 21 [(.agg ⟨[(iI c.params),(iI c.regs),(.slice a2 c.blocks.length a4)]⟩)] H fun v H'=> ∃(ag:Option Addr) (kg:Nat) (g:List (List Int)) (F':Fz),Fz.le F F'/\HS (.of H []) F' H' [] R/\v= .slice ag g.length kg/\SR F' (.slice ag g.length kg) g/\(bK c=true->InF c g)/\(bK c=false->g=[]):=by
 refine aH Tryd.func21 rfl rfl (aj 1 rfl (aa (aE (aZ hs rfl rfl) rfl rfl ?_)));rintro _ H2 _ ⟨b1,rfl,(f9:HS _ _ _ [[(b1,.cells [(iI c.params),(iI c.regs),(.slice a2 c.blocks.length a4)] none false)]] _),_⟩;let e2:Value:=(.agg ⟨[(iI c.params),(iI c.regs),(.slice a2 c.blocks.length a4)]⟩)
 refine wa (.slice none 0 0) rfl rfl rfl (ae 3 rfl (aa (wUo 1 0 [(0,.o e2)] 12 12 [] [(12,e2)] (qn 24 0 3 (HS.hc f9 (i:=0) rfl) rfl rfl rfl rfl) rfl fun _=>az (aq rfl rfl rfl) rfl rfl (m3.fk ex c (HS.call f9) (by omega) (by omega) an hT (fun j=>a0c (hins j) (by omega))) ?_)));rintro _ H4 ⟨r4,F4,ez,dk,rfl,rfl⟩;replace dk:HS _ _ _ [_] _:=HS.back f9 rfl dk;replace hT:=hT.mono ez;replace an:=an.mono ez;refine wTo 1 2 [] 14 14 [] [(14,(.bool (!(bK c))))] rfl fun _=>ae 1 rfl (ap 1 2 (v:=(!(bK c))) rfl rfl rfl rfl (fun f2=>?_) (fun f2=>?_))
 ·have c6:=f2;try simp only[BS]at c6
  have hv:=c6;refine wT 1 [] 2 2 [] [(2,(.slice none 0 0))] rfl fun _=>am ⟨.inr rfl,_,rfl,none,0,([]:List (List Int)),_,(ez),(HS.forget dk),rfl,(SR.nil:SR F4 (.slice none 0 0) ([]:List (List Int))),(fun h=>absurd (h.symm.trans hv) (by decide)),(fun _=>rfl)⟩
 have c6:=f2;try simp only[BS]at c6
 have hv:=c6;have vF:=gF hv;have hnb:=vF.nb;have hrg:=vF.regs;refine aa (wUo 2 0 [(1,.o (iI c.regs))] 15 16 [] [(16,(iI c.regs))] (ql 3 1 (HS.hc dk (i:=0) rfl) rfl rfl) rfl fun _=>aE (di ([]:(List Int)) dk rfl rfl rfl rfl rfl rfl rfl rfl rfl ⟨none,0,rfl,SR.nil⟩ (by omega) (by omega)) rfl rfl ?_);rintro _ l4 p9 ⟨a9,k9,rfl,j0,(h6:HS _ _ _ [_,p9] _),_⟩;let e3:Fp:=[(b1,.cells [(iI c.params),(iI c.regs),(.slice a2 c.blocks.length a4)] none false)]
 refine wa (.slice a9 (List.replicate c.regs.toNat ([]:(List Int))).length k9) rfl rfl rfl (ae 3 rfl (wT 2 [] 1 0 [4] [(4,(iI 0))] rfl fun _=>ak (fun(mm:Nat) f H'=> ∃(g1:List (List Int)) (b:Nat) (ay:Option Addr) (a0:Nat) (bb:Fp) (F':Fz),Fz.le F4 F'/\HS (Base.of H []) F' H' [e3,bb] R/\OS F' (.slice ay g1.length a0) g1 bb/\aD f [(1,(.pointer (some ⟨b1,0,none⟩))),(3,(.slice ay g1.length a0)),(4,(iI (b:Int)))]/\mm=c.blocks.length-b/\(RlF c g1 (E0 c b))/\(b<=c.blocks.length)) _ ⟨List.replicate c.regs.toNat ([]:(List Int)),0,a9,k9,p9,_,fR,h6,j0,⟨rfl,rfl,rfl,trivial⟩,rfl,(rl_zero),(by omega)⟩ ?_));rintro lU mp l5 ⟨g1,b,ay,a0,bb,lY,ci,b9,bl,f5,rfl,hD,hb⟩ h8;refine au _ f5 (fun _=>?_);clear f5;replace hT:=hT.mono ci;replace an:=an.mono ci;refine aj 2 rfl (wU 1 [(2,.o (.slice a2 c.blocks.length a4))] 18 22 [] [(22,(.bool (decide ((b:Int)<(c.blocks.length:Int)))))] (ql 22 2 (HS.hc b9 (i:=0) rfl) rfl rfl) rfl fun _=>ap 4 5 (v:=(decide ((b:Int)<(c.blocks.length:Int)))) rfl rfl rfl rfl (fun dn=>?_) (fun dn=>?_))
 ·have e6:=dn;try simp only[BS]at e6
  have hbn:b<c.blocks.length:=by omega
  have hbl:=hins b;refine aa (wUo 2 0 [(0,.o e2)] 25 26 [] [(25,e2),(26,(iI (b:Int)))] (qn 24 0 3 (HS.hc b9 (i:=0) rfl) rfl rfl rfl rfl) rfl fun _=>az (aq rfl rfl rfl) rfl rfl (mj.rlp_c ex c (b:Int) (HS.call b9) (by omega) (by omega) an (by omega) hT (fun j=>a0c (hins j) (by omega))) ?_);rintro _ l6 ⟨b0,b5,A,iz,co,ea,rfl,aw,lN,lM⟩;replace ea:HS _ _ _ [_,bb] _:=HS.back b9 rfl ea;replace bl:=bl.mono co;refine wa (.slice b0 A.length b5) rfl rfl rfl (ae 2 rfl ?_);have pf:PtF c b A:=(by assumption:bK c=true->0<=((b:Nat):Int)->((b:Nat):Int)<(c.blocks.length:Int)->PtF c ((b:Nat):Int).toNat A) hv (by omega) (by omega);have hpl:(A).length=(c.blocks.getD b default).ins.length+1:=pf.len;refine wT 2 [] 1 0 [6] [(6,(iI 0))] rfl fun _=>ak (fun(mm:Nat) f H'=> ∃(g2:List (List Int)) (k:Nat) (a5:Option Addr) (a7:Nat) (a1:Fp) (F':Fz),Fz.le iz F'/\HS (Base.of H []) F' H' [e3,a1] R/\OS F' (.slice a5 g2.length a7) g2 a1/\aD f [(1,(.pointer (some ⟨b1,0,none⟩))),(3,(.slice a5 g2.length a7)),(4,(iI (b:Int))),(5,(.slice b0 A.length b5)),(6,(iI (k:Int)))]/\mm=(c.blocks.getD b default).ins.length-k/\(RlF c g2 (E1 c b k))/\(k<=(c.blocks.getD b default).ins.length)) _ ⟨g1,0,ay,a0,bb,_,fR,ea,bl,⟨rfl,rfl,rfl,rfl,rfl,trivial⟩,rfl,(hD.iff e1_iff),(by omega)⟩ ?_
  rintro lV mq l7 ⟨g2,k,a5,a7,a1,lZ,b6,ax,bz,f6,rfl,hE,hk⟩ h9;refine au _ f6 (fun _=>?_);clear f6;replace hT:=(hT.mono co).mono b6;replace an:=(an.mono co).mono b6;replace aw:=aw.mono b6;refine aj 2 rfl ?_;obtain⟨f3,g0⟩:=Sv.view (SR.sv an ax);obtain⟨kc,kd,ki,kk,lf⟩:=BlkT.fx (g0 b);refine wR 1 [(2,.o (.slice a2 c.blocks.length a4)),(6,.o (.slice (cA (f3 b) 0) (c.blocks.getD b default).ins.length (cK (f3 b) 0)))] 28 36 [] [(36,(.bool (decide ((k:Int)<((c.blocks.getD b default).ins.length:Int)))))] (vA (ql 22 2 (HS.hc ax (i:=0) rfl) rfl rfl) (vA (Sv.ix (j:=(b:Int)) (SR.sv an ax) (by omega) (by omega)) (vA (ql 46 0 (BlkT.vw (g0 b) (by omega)) rfl rfl) trivial))) rfl fun _=>ap 4 5 (v:=(decide ((k:Int)<((c.blocks.getD b default).ins.length:Int)))) rfl rfl rfl rfl (fun ds=>?_) (fun ds=>?_)
  ·have fd:=ds;try simp only[BS]at fd
   have hkn:k<(c.blocks.getD b default).ins.length:=by omega
   have pt:Lst ((A).getD (((k:Nat):Int)+1).toNat default) (ptS c b (k+1)):=pf.pt (k+1) hkn;have hal:=Lst.len pt hrg.1 (fun r h=>jI vF hbn h);have hwr: ∀x∈ab ((c.blocks.getD b default).ins.getD k default),0<=x/\x<c.regs:=(bQ (vF.ins b hbn k hkn)).2.1;have mz:=el (v:=((c.blocks.getD b default).ins.getD k default));refine aa ?_;obtain⟨f4,g5⟩:=Sv.view (SR.sv an ax);obtain⟨kl,kn,kr,kt,e1⟩:=BlkT.fx (g5 b);obtain⟨b2,g6⟩:=Sv.view (SR.sv e1 ax);obtain⟨kx,ky,kz,k0,k3,hz⟩:=VInT.fx (g6 k);let e4:Value:=(.agg ⟨[(iI ((c.blocks.getD b default).ins.getD k default).i.op),(iI ((c.blocks.getD b default).ins.getD k default).i.a),(iI ((c.blocks.getD b default).ins.getD k default).i.b),(iI ((c.blocks.getD b default).ins.getD k default).i.c),(iI ((c.blocks.getD b default).ins.getD k default).i.n),(.slice (cA (b2 k) 5) ((c.blocks.getD b default).ins.getD k default).args.length (cK (b2 k) 5))]⟩)
   refine wRo 9 0 [(1,.o (.slice a2 c.blocks.length a4)),(5,.o (.slice (cA (f4 b) 0) (c.blocks.getD b default).ins.length (cK (f4 b) 0))),(8,.o e4)] 39 47 [] [(47,e4)] (vA (ql 22 2 (HS.hc ax (i:=0) rfl) rfl rfl) (vA (Sv.ix (j:=(b:Int)) (SR.sv an ax) (by omega) (by omega)) (vA (ql 46 0 (BlkT.vw (g5 b) (by omega)) rfl rfl) (vA (Sv.ix (j:=(k:Int)) (SR.sv e1 ax) (by omega) (by omega)) (vA (qn 52 0 6 (VInT.vw (g6 k) (by omega)) rfl rfl rfl rfl) trivial))))) rfl fun _=>aE (bd ax rfl) rfl rfl ?_
   rintro _ l8 _ ⟨c8,rfl,(h7:HS _ _ _ [_,a1,[(c8,.cells [(iI 0),(iI 0),(iI 0),(iI 0),(iI 0),(.slice none 0 0)] none false)]] _),_⟩;refine aJ (aF (q:=2) h7 rfl rfl rfl rfl rfl rfl rfl rfl rfl) rfl ?_;rintro _ l9 _ ⟨(em:HS _ _ _ [_,_,[(c8,.cells [(iI ((c.blocks.getD b default).ins.getD k default).i.op),(iI ((c.blocks.getD b default).ins.getD k default).i.a),(iI ((c.blocks.getD b default).ins.getD k default).i.b),(iI ((c.blocks.getD b default).ins.getD k default).i.c),(iI ((c.blocks.getD b default).ins.getD k default).i.n),(.slice (cA (b2 k) 5) ((c.blocks.getD b default).ins.getD k default).args.length (cK (b2 k) 5))] none false)]] _),_⟩;refine ae 2 rfl (aa (wUo 1 0 [(0,.o e4)] 48 48 [] [(48,e4)] (qn 52 0 6 (HS.hc em (i:=2) rfl) rfl rfl rfl rfl) rfl fun _=>az (aq rfl rfl rfl) rfl rfl (ma.rwrites_c ex ((c.blocks.getD b default).ins.getD k default) (HS.call em) (by omega) (by omega) (by omega) (by omega) (by omega) hz hT) ?_));rintro _ mk ⟨Z,al,mA,ha,i1,c0,es,rfl,U,rfl⟩;replace es:HS _ _ _ [_,_,_,ha] _:=HS.back em rfl es;replace bz:=bz.mono c0;let hG:Fp:=[(c8,.cells [(iI ((c.blocks.getD b default).ins.getD k default).i.op),(iI ((c.blocks.getD b default).ins.getD k default).i.a),(iI ((c.blocks.getD b default).ins.getD k default).i.b),(iI ((c.blocks.getD b default).ins.getD k default).i.c),(iI ((c.blocks.getD b default).ins.getD k default).i.n),(.slice (cA (b2 k) 5) ((c.blocks.getD b default).ins.getD k default).args.length (cK (b2 k) 5))] none false)]
   refine wa (.slice Z (ab ((c.blocks.getD b default).ins.getD k default)).length al) rfl rfl rfl (ae 2 rfl (wT 2 [] 1 0 [9] [(9,(iI 0))] rfl fun _=>ak (fun(mm:Nat) f H'=> ∃(g3:List (List Int)) (i:Nat) (a6:Option Addr) (a8:Nat) (bk:Fp) (F':Fz),Fz.le i1 F'/\HS (Base.of H []) F' H' [e3,bk,hG,ha] R/\OS F' (.slice a6 g3.length a8) g3 bk/\aD f [(1,(.pointer (some ⟨b1,0,none⟩))),(3,(.slice a6 g3.length a8)),(4,(iI (b:Int))),(5,(.slice b0 A.length b5)),(6,(iI (k:Int))),(7,(.pointer (some ⟨c8,0,none⟩))),(8,(.slice Z (ab ((c.blocks.getD b default).ins.getD k default)).length al)),(9,(iI (i:Int)))]/\mm=(ab ((c.blocks.getD b default).ins.getD k default)).length-i/\(RlF c g3 (E2 c b k i))/\(i<=(ab ((c.blocks.getD b default).ins.getD k default)).length)) _ ⟨g2,0,a5,a7,a1,_,fR,es,bz,⟨rfl,rfl,rfl,rfl,rfl,rfl,rfl,rfl,trivial⟩,rfl,(hE.iff e2_iff),(by omega)⟩ ?_));rintro lW mr mn ⟨g3,i,a6,a8,bk,i2,b7,go,dl,f7,rfl,hF,hi⟩ ib;refine au _ f7 (fun _=>?_);clear f7;replace hT:=(hT.mono c0).mono b7;replace aw:=(aw.mono c0).mono b7;replace U:=U.mono b7;refine aj 2 rfl (wT 1 [] 50 53 [] [(53,(.bool (decide ((i:Int)<((ab ((c.blocks.getD b default).ins.getD k default)).length:Int)))))] rfl fun _=>ap 4 5 (v:=(decide ((i:Int)<((ab ((c.blocks.getD b default).ins.getD k default)).length:Int)))) rfl rfl rfl rfl (fun dt=>?_) (fun dt=>?_))
   ·have fi:=dt;try simp only[BS]at fi
    have hwl:=e7 hwr (k:=i) (by omega);refine wT 2 [] 1 0 [10] [(10,(iI 0))] rfl fun _=>ak (fun(mm:Nat) f H'=> ∃(V:List (List Int)) (j:Nat) (E:Option Addr) (J:Nat) (av:Fp) (F':Fz),Fz.le i2 F'/\HS (Base.of H []) F' H' [e3,av,hG,ha] R/\OS F' (.slice E V.length J) V av/\aD f [(1,(.pointer (some ⟨b1,0,none⟩))),(3,(.slice E V.length J)),(4,(iI (b:Int))),(5,(.slice b0 A.length b5)),(6,(iI (k:Int))),(7,(.pointer (some ⟨c8,0,none⟩))),(8,(.slice Z (ab ((c.blocks.getD b default).ins.getD k default)).length al)),(9,(iI (i:Int))),(10,(iI (j:Int)))]/\mm=((A).getD (((k:Nat):Int)+1).toNat default).length-j/\(RlF c V (E3 c b k i ((A).getD (((k:Nat):Int)+1).toNat default) j))/\(j<=((A).getD (((k:Nat):Int)+1).toNat default).length)) _ ⟨g3,0,a6,a8,bk,_,fR,go,dl,⟨rfl,rfl,rfl,rfl,rfl,rfl,rfl,rfl,rfl,trivial⟩,rfl,(hF.iff e3_iff),(by omega)⟩ ?_
    rintro lX ms hC ⟨V,j,E,J,av,l0,b3,N,T,f8,rfl,ch,hj⟩ g9;refine au _ f8 (fun _=>?_);clear f8;replace hT:=hT.mono b3;replace aw:=aw.mono b3;replace U:=U.mono b3;refine aj 2 rfl (aa (wTo 3 0 [] 56 58 [] [(56,(iI (j:Int))),(57,(.slice b0 A.length b5)),(58,(iI (k:Int)))] rfl fun _=>az (aq rfl rfl rfl) rfl rfl (mh.after_c ex A (k:Int) (HS.call N) aw (by omega) hT (by omega)) ?_));rintro _ hC ⟨lD,lS,mB,rfl,rfl,la,rfl⟩;refine wTo 2 4 [] 60 61 [] [(61,(.bool (decide ((j:Int)<((A.getD ((k:Int)+1).toNat default).length:Int)))))] rfl fun _=>ae 1 rfl (ap 4 5 (v:=(decide ((j:Int)<((A.getD ((k:Int)+1).toNat default).length:Int)))) rfl rfl rfl rfl (fun dv=>?_) (fun dv=>?_))
    ·have f0:=dv;try simp only[BS]at f0
     have hyl:0<=(((A).getD (((k:Nat):Int)+1).toNat default).getD j 0)/\(((A).getD (((k:Nat):Int)+1).toNat default).getD j 0)<c.regs:=by(have hm:=(pt.mem _).1 (jW (l:=((A).getD (((k:Nat):Int)+1).toNat default)) (q:=j) (by omega));have hh:=jI vF hbn hm.2;omega)
     refine aa (wTo 2 0 [] 64 65 [] [(64,(.slice b0 A.length b5)),(65,(iI (k:Int)))] rfl fun _=>az (aq rfl rfl rfl) rfl rfl (mh.after_c ex A (k:Int) (HS.call N) aw (by omega) hT (by omega)) ?_);rintro _ hC ⟨lE,lT,mC,rfl,rfl,e0,rfl⟩;obtain⟨lF,g7⟩:=Sv.view (SR.sv e0 N);have mu:=fI (g7 j);refine wRo 4 3 [(5,.o (iI ((A.getD ((k:Int)+1).toNat default).getD j 0)))] 67 69 [11] [(11,(iI ((A.getD ((k:Int)+1).toNat default).getD j 0)))] (vA (Sv.ix (j:=(j:Int)) (SR.sv e0 N) (by omega) (by omega)) (vA (ql 3 0 (vI (g7 j) (by omega)) rfl rfl) trivial)) rfl fun _=>ae 2 rfl ?_
     obtain⟨lG,g8⟩:=Sv.view (OS.sv U N (i:=3) rfl);have mw:=fI (g8 i);refine wR 1 [(4,.o (iI ((ab ((c.blocks.getD b default).ins.getD k default)).getD i 0))),(9,.o (iI ((c.blocks.getD b default).ins.getD k default).i.op)),(15,.o (iI ((c.blocks.getD b default).ins.getD k default).i.b))] 70 89 [] [(89,(.bool ((((A.getD ((k:Int)+1).toNat default).getD j 0) !=((ab ((c.blocks.getD b default).ins.getD k default)).getD i 0))&&(!((((c.blocks.getD b default).ins.getD k default).i.op==10)&&(((A.getD ((k:Int)+1).toNat default).getD j 0)==((c.blocks.getD b default).ins.getD k default).i.b))))))] (vA (Sv.ix (j:=(i:Int)) (OS.sv U N (i:=3) rfl) (by omega) (by omega)) (vA (ql 3 0 (vI (g8 i) (by omega)) rfl rfl) (vA (fun(g1:(((A.getD ((k:Int)+1).toNat default).getD j 0) !=((ab ((c.blocks.getD b default).ins.getD k default)).getD i 0))=true)=>(ql 3 0 (HS.hc N (i:=2) rfl) rfl rfl)) (vA (fun(g1:(((c.blocks.getD b default).ins.getD k default).i.op==10)=true) (g2:(((A.getD ((k:Int)+1).toNat default).getD j 0) !=((ab ((c.blocks.getD b default).ins.getD k default)).getD i 0))=true)=>(ql 3 2 (HS.hc N (i:=2) rfl) rfl rfl)) trivial)))) rfl fun _=>ap 0 2 (v:=((((A.getD ((k:Int)+1).toNat default).getD j 0) !=((ab ((c.blocks.getD b default).ins.getD k default)).getD i 0))&&(!((((c.blocks.getD b default).ins.getD k default).i.op==10)&&(((A.getD ((k:Int)+1).toNat default).getD j 0)==((c.blocks.getD b default).ins.getD k default).i.b))))) rfl rfl rfl rfl (fun d1=>?_) (fun d1=>?_)
     ·have c9:=d1;try simp only[BS]at c9
      have d4:=c9;have hne:eok c b k ((ab ((c.blocks.getD b default).ins.getD k default)).getD i 0) (((A).getD (((k:Nat):Int)+1).toNat default).getD j 0):=⟨d4.1,fun h=>by have h2:=d4.2;simp_all⟩
      have hgl:=ch.len;have mx:=(ch.rng ((ab ((c.blocks.getD b default).ins.getD k default)).getD i 0).toNat).1;have my:=(ch.rng (((A).getD (((k:Nat):Int)+1).toNat default).getD j 0).toNat).1;refine aW rfl (fm (.slice E V.length J) rfl rfl rfl (fm (.slice Z (ab ((c.blocks.getD b default).ins.getD k default)).length al) rfl rfl rfl (fm (iI (i:Int)) rfl rfl rfl (wfv (v:=(.pointer (some ⟨sB (.slice Z (ab ((c.blocks.getD b default).ins.getD k default)).length al),sO (.slice Z (ab ((c.blocks.getD b default).ins.getD k default)).length al)+i*Rp.sz Int,none⟩))) (bj (α:=Int) (j:=(i:Int)) rfl rfl rfl rfl (OS.sv U N.log0 (i:=3) rfl) (by omega) (by omega)) ?_))));obtain⟨lH,hW,hM⟩:=Sv.at (OS.sv U N.log0 (i:=3) rfl) (aN (x:=(0:Int)) (show i<(ab ((c.blocks.getD b default).ins.getD k default)).length from by omega));obtain⟨rfl,k4⟩:=hW;refine aG (v:=(iI ((ab ((c.blocks.getD b default).ins.getD k default)).getD i 0))) (id:= .l (sB (.slice Z (ab ((c.blocks.getD b default).ins.getD k default)).length al))) (bo (i:=0) rfl rfl hM rfl rfl) rfl rfl (bu rfl) (kb rfl) (fm (.slice E V.length J) rfl rfl rfl (fm (iI ((A.getD ((k:Int)+1).toNat default).getD j 0)) rfl rfl rfl (fm (.slice E V.length J) rfl rfl rfl (fm (.slice Z (ab ((c.blocks.getD b default).ins.getD k default)).length al) rfl rfl rfl (fm (iI (i:Int)) rfl rfl rfl ?_)))));refine wfv (v:=(.pointer (some ⟨sB (.slice Z (ab ((c.blocks.getD b default).ins.getD k default)).length al),sO (.slice Z (ab ((c.blocks.getD b default).ins.getD k default)).length al)+i*Rp.sz Int,none⟩))) (bj (α:=Int) (j:=(i:Int)) rfl rfl rfl rfl (OS.sv U N.log0 (i:=3) rfl) (by omega) (by omega)) ?_;obtain⟨lI,hX,hQ⟩:=Sv.at (OS.sv U N.log0 (i:=3) rfl) (aN (x:=(0:Int)) (show i<(ab ((c.blocks.getD b default).ins.getD k default)).length from by omega));obtain⟨rfl,k5⟩:=hX;refine aG (v:=(iI ((ab ((c.blocks.getD b default).ins.getD k default)).getD i 0))) (id:= .l (sB (.slice Z (ab ((c.blocks.getD b default).ins.getD k default)).length al))) (bo (i:=0) rfl rfl hQ rfl rfl) rfl rfl (bu rfl) (kb rfl) (wfv (v:=(.pointer (some ⟨sB (.slice E V.length J),sO (.slice E V.length J)+(((ab ((c.blocks.getD b default).ins.getD k default)).getD i 0).toNat)*Rp.sz (List Int),none⟩))) (bj (α:=(List Int)) (j:=((ab ((c.blocks.getD b default).ins.getD k default)).getD i 0)) rfl rfl rfl rfl (OS.sv T N.log0 (i:=1) rfl) (by omega) (by omega)) ?_);obtain⟨lJ,hY,hR⟩:=Sv.at (OS.sv T N.log0 (i:=1) rfl) (aN (x:=default) (show((ab ((c.blocks.getD b default).ins.getD k default)).getD i 0).toNat<V.length from by omega));obtain⟨hg,hu,rfl,hA⟩:=hY;refine aG (v:=(.slice hg (V.getD (((ab ((c.blocks.getD b default).ins.getD k default)).getD i 0).toNat) default).length hu)) (id:= .l (sB (.slice E V.length J))) (bo (i:=0) rfl rfl hR rfl rfl) rfl rfl (bu rfl) (kb rfl) (fm (iI ((A.getD ((k:Int)+1).toNat default).getD j 0)) rfl rfl rfl (be (W:=[]) (aq rfl rfl rfl) rfl rfl rfl (m6.cZ ex (V.getD (((ab ((c.blocks.getD b default).ins.getD k default)).getD i 0).toNat) default) ((A.getD ((k:Int)+1).toNat default).getD j 0) (HS.call N.log0) hA (by omega) hT (by omega)) (⟨.inl rfl,⟨.inl rfl,⟨.inl rfl,⟨.inl rfl,⟨.inl rfl,⟨.inl rfl,⟨.inl rfl,⟨.inl rfl,⟨.inr trivial,⟨.inr trivial,⟨.inr a0g,⟨.inr trivial,⟨.inr trivial,⟨.inr trivial,⟨.inr trivial,trivial⟩⟩⟩⟩⟩⟩⟩⟩⟩⟩⟩⟩⟩⟩⟩) ?_));rintro _ ja ⟨hH,ih,mD,l1,c3,ad,rfl,c7,rfl⟩;refine⟨Wr.did ad.log,fun ik hn=>?_⟩;replace ad:=HS.back N.log0 rfl ad;replace ad:=HS.lg ad N hn;generalize ({ja with log:=ik}:Heap)=lr at ad⊢;have ad:HS _ _ _ [_,av,_,_] _:=ad;replace hT:=hT.mono c3;replace U:=U.mono c3;replace T:=T.mono c3;refine fm (.slice E V.length J) rfl rfl rfl (fm (iI ((A.getD ((k:Int)+1).toNat default).getD j 0)) rfl rfl rfl (wfv (v:=(.pointer (some ⟨sB (.slice E V.length J),sO (.slice E V.length J)+(((A.getD ((k:Int)+1).toNat default).getD j 0).toNat)*Rp.sz (List Int),none⟩))) (bj (α:=(List Int)) (j:=((A.getD ((k:Int)+1).toNat default).getD j 0)) rfl rfl rfl rfl (OS.sv T ad.log0 (i:=1) rfl) (by omega) (by omega)) ?_));obtain⟨lK,h3,hS⟩:=Sv.at (OS.sv T ad.log0 (i:=1) rfl) (aN (x:=default) (show((A.getD ((k:Int)+1).toNat default).getD j 0).toNat<V.length from by omega));obtain⟨hl,hw,rfl,hB⟩:=h3;refine aG (v:=(.slice hl (V.getD (((A.getD ((k:Int)+1).toNat default).getD j 0).toNat) default).length hw)) (id:= .l (sB (.slice E V.length J))) (bo (i:=0) rfl rfl hS rfl rfl) rfl rfl (bu rfl) (⟨.inl rfl,⟨.inl rfl,⟨.inl rfl,⟨.inr a0g,⟨.inr trivial,⟨.inr trivial,⟨.inr trivial,⟨.inr trivial,⟨.inr trivial,⟨.inr trivial,⟨.inr trivial,⟨.inr trivial,⟨.inr trivial,⟨.inr trivial,⟨.inr trivial,⟨.inr trivial,⟨.inr trivial,⟨.inr trivial,⟨.inr trivial,trivial⟩⟩⟩⟩⟩⟩⟩⟩⟩⟩⟩⟩⟩⟩⟩⟩⟩⟩⟩) (fm (.slice Z (ab ((c.blocks.getD b default).ins.getD k default)).length al) rfl rfl rfl (fm (iI (i:Int)) rfl rfl rfl (wfv (v:=(.pointer (some ⟨sB (.slice Z (ab ((c.blocks.getD b default).ins.getD k default)).length al),sO (.slice Z (ab ((c.blocks.getD b default).ins.getD k default)).length al)+i*Rp.sz Int,none⟩))) (bj (α:=Int) (j:=(i:Int)) rfl rfl rfl rfl (OS.sv U ad.log0 (i:=3) rfl) (by omega) (by omega)) ?_)));obtain⟨lL,h4,hV⟩:=Sv.at (OS.sv U ad.log0 (i:=3) rfl) (aN (x:=(0:Int)) (show i<(ab ((c.blocks.getD b default).ins.getD k default)).length from by omega));obtain⟨rfl,k6⟩:=h4;refine aG (v:=(iI ((ab ((c.blocks.getD b default).ins.getD k default)).getD i 0))) (id:= .l (sB (.slice Z (ab ((c.blocks.getD b default).ins.getD k default)).length al))) (bo (i:=0) rfl rfl hV rfl rfl) rfl rfl (bu rfl) (⟨.inl rfl,⟨.inl rfl,⟨.inl rfl,⟨.inr trivial,⟨.inr trivial,⟨.inr trivial,⟨.inr trivial,⟨.inr a0g,⟨.inr trivial,⟨.inr trivial,⟨.inr trivial,⟨.inr trivial,⟨.inr trivial,⟨.inr trivial,⟨.inr trivial,⟨.inr trivial,⟨.inr trivial,⟨.inr trivial,⟨.inr trivial,⟨.inr trivial,⟨.inr trivial,⟨.inr trivial,⟨.inr trivial,trivial⟩⟩⟩⟩⟩⟩⟩⟩⟩⟩⟩⟩⟩⟩⟩⟩⟩⟩⟩⟩⟩⟩⟩) (be (W:=[]) (aq rfl rfl rfl) rfl rfl rfl (m6.cZ ex (V.getD (((A.getD ((k:Int)+1).toNat default).getD j 0).toNat) default) ((ab ((c.blocks.getD b default).ins.getD k default)).getD i 0) (HS.call ad.log0) hB (by omega) hT (by omega)) (⟨.inl rfl,⟨.inl rfl,⟨.inl rfl,⟨.inl rfl,⟨.inl rfl,⟨.inl rfl,⟨.inl rfl,⟨.inl rfl,⟨.inl rfl,⟨.inl rfl,⟨.inl rfl,⟨.inl rfl,⟨.inl rfl,⟨.inl rfl,⟨.inl rfl,⟨.inl rfl,⟨.inl rfl,⟨.inr trivial,⟨.inr trivial,⟨.inr a0g,⟨.inr trivial,⟨.inr trivial,⟨.inr trivial,⟨.inr trivial,trivial⟩⟩⟩⟩⟩⟩⟩⟩⟩⟩⟩⟩⟩⟩⟩⟩⟩⟩⟩⟩⟩⟩⟩⟩) ?_);rintro _ jb ⟨hI,ii,mE,l2,d3,ar,rfl,ht,rfl⟩;refine⟨Wr.did ar.log,fun il hp=>?_⟩;replace ar:=HS.back ad.log0 rfl ar;replace ar:=HS.lg ar ad hp;generalize ({jb with log:=il}:Heap)=lv at ar⊢;have ar:HS _ _ _ [_,_,_,_] _:=ar;replace c7:=c7.mono d3;replace T:=T.mono d3;refine wfv (v:=(.pointer (some ⟨sB (.slice E V.length J),sO (.slice E V.length J)+(((ab ((c.blocks.getD b default).ins.getD k default)).getD i 0).toNat)*Rp.sz (List Int),none⟩))) (bj (α:=(List Int)) (j:=((ab ((c.blocks.getD b default).ins.getD k default)).getD i 0)) rfl rfl rfl rfl (OS.sv T ar.log0 (i:=1) rfl) (by omega) (by omega)) (iT (id:= .x (av.map Prod.fst)) (cr (α:=(List Int)) (j:=((ab ((c.blocks.getD b default).ins.getD k default)).getD i 0).toNat) (off:=0) (q:=1) (db (V.getD (((ab ((c.blocks.getD b default).ins.getD k default)).getD i 0).toNat) default) ((A.getD ((k:Int)+1).toNat default).getD j 0)) T ar.log0 rfl rfl rfl rfl rfl rfl rfl rfl (aN (x:=default) (by omega)) rfl (by rintro cs ⟨_,_,rfl,_⟩;exact⟨a04 rfl,⟨hH,ih,rfl,c7⟩⟩)) rfl (by rintro _ _ he ⟨c4,_,hwr⟩;exact cQ rfl rfl (Wr.did hwr)) (kb rfl) ?_);rintro _ jc he ⟨c4,a3,_⟩ it hq;replace a3:=HS.lg a3 ar hq;generalize ({jc with log:=it}:Heap)=lB at a3⊢;have a3:HS _ _ _ [_,he,_,_] _:=a3;have k7:=OS.len' c4;refine wfv (v:=(.pointer (some ⟨sB (.slice E V.length J),sO (.slice E V.length J)+(((A.getD ((k:Int)+1).toNat default).getD j 0).toNat)*Rp.sz (List Int),none⟩))) (bj (α:=(List Int)) (j:=((A.getD ((k:Int)+1).toNat default).getD j 0)) rfl rfl rfl rfl (OS.sv c4 a3.log0 (i:=1) rfl) (by omega) (by omega)) (iT (id:= .x (he.map Prod.fst)) (cr (α:=(List Int)) (j:=((A.getD ((k:Int)+1).toNat default).getD j 0).toNat) (off:=0) (q:=1) (db (V.getD (((A.getD ((k:Int)+1).toNat default).getD j 0).toNat) default) ((ab ((c.blocks.getD b default).ins.getD k default)).getD i 0)) c4 a3.log0 rfl rfl rfl rfl rfl rfl rfl rfl (aN (x:=default) (by omega)) rfl (by rintro cs ⟨_,_,rfl,_⟩;exact⟨a04 rfl,⟨hI,ii,rfl,ht⟩⟩)) rfl (by rintro _ _ hf ⟨c5,_,hwr⟩;exact cQ rfl rfl (Wr.did hwr)) (kb rfl) ?_);rintro _ jq hf ⟨c5,b4,_⟩ iv hr;replace b4:=HS.lg b4 a3 hr;generalize ({jq with log:=iv}:Heap)=lC at b4⊢;have b4:HS _ _ _ [_,hf,_,_] _:=b4;have k8:=OS.len' c5;refine cg (aj 2 rfl (wU 1 [] 62 63 [10] [(10,(iI ((j:Int)+1)))] (vi (n:=(j:Int)+1) (by omega)) rfl fun _=>g9 _ _ _ ?_ ⟨(V.set (((ab ((c.blocks.getD b default).ins.getD k default)).getD i 0).toNat) (db (V.getD (((ab ((c.blocks.getD b default).ins.getD k default)).getD i 0).toNat) default) ((A.getD ((k:Int)+1).toNat default).getD j 0))).set (((A.getD ((k:Int)+1).toNat default).getD j 0).toNat) (db (V.getD (((A.getD ((k:Int)+1).toNat default).getD j 0).toNat) default) ((ab ((c.blocks.getD b default).ins.getD k default)).getD i 0)),j+1,E,J,hf,_,(fT (fT (b3) c3) d3),b4,(OS.norm c5),(agC rfl (agC (show Value.slice E V.length J=Value.slice E ((V.set (((ab ((c.blocks.getD b default).ins.getD k default)).getD i 0).toNat) (db (V.getD (((ab ((c.blocks.getD b default).ins.getD k default)).getD i 0).toNat) default) ((A.getD ((k:Int)+1).toNat default).getD j 0))).set (((A.getD ((k:Int)+1).toNat default).getD j 0).toNat) (db (V.getD (((A.getD ((k:Int)+1).toNat default).getD j 0).toNat) default) ((ab ((c.blocks.getD b default).ins.getD k default)).getD i 0))).length J by rw[OS.len' c5]) ⟨rfl,rfl,rfl,rfl,rfl,rfl,rfl,trivial⟩)),rfl,(rl_yes vF (by omega) ch hne hwl hyl),(by omega)⟩));omega
     have c9:=d1;try simp only[BS]at c9
     have d4:=c9;have hne: ¬eok c b k ((ab ((c.blocks.getD b default).ins.getD k default)).getD i 0) (((A).getD (((k:Nat):Int)+1).toNat default).getD j 0):=fun h=>by(have h1:=h.1;have h2:=h.2;simp_all)
     refine wU 1 [] 62 63 [10] [(10,(iI ((j:Int)+1)))] (vi (n:=(j:Int)+1) (by omega)) rfl fun _=>g9 _ _ _ ?_ ⟨V,j+1,E,J,av,_,(b3),N,T,⟨rfl,rfl,rfl,rfl,rfl,rfl,rfl,rfl,rfl,trivial⟩,rfl,(rl_no (by omega) ch hne),(by omega)⟩
     omega
    have f0:=dv;try simp only[BS]at f0
    refine wU 1 [] 54 55 [9] [(9,(iI ((i:Int)+1)))] (vi (n:=(i:Int)+1) (by omega)) rfl fun _=>ib _ _ _ ?_ ⟨V,i+1,E,J,av,_,(fT (b7) b3),N,T,⟨rfl,rfl,rfl,rfl,rfl,rfl,rfl,rfl,trivial⟩,rfl,(ch.iff (e2s_iff pt (show i<(ab ((c.blocks.getD b default).ins.getD k default)).length by omega) (by omega))),(by omega)⟩
    omega
   have fi:=dt;try simp only[BS]at fi
   refine wU 1 [] 37 38 [6] [(6,(iI ((k:Int)+1)))] (vi (n:=(k:Int)+1) (by omega)) rfl fun _=>h9 _ _ _ ?_ ⟨g3,k+1,a6,a8,bk,_,(fT (fT (b6) c0) b7),(HS.sub go (a03 _ _)),dl,⟨rfl,rfl,rfl,rfl,rfl,trivial⟩,rfl,(hF.iff (e1s_iff (show(ab ((c.blocks.getD b default).ins.getD k default)).length<=i by omega))),(by omega)⟩
   omega
  have fd:=ds;try simp only[BS]at fd
  refine wU 1 [] 23 24 [4] [(4,(iI ((b:Int)+1)))] (vi (n:=(b:Int)+1) (by omega)) rfl fun _=>h8 _ _ _ ?_ ⟨g2,b+1,a5,a7,a1,_,(fT (fT (ci) co) b6),ax,bz,⟨rfl,rfl,rfl,trivial⟩,rfl,(hE.iff (e0_iff (show(c.blocks.getD b default).ins.length=k by omega))),(by omega)⟩
  omega
 have e6:=dn;try simp only[BS]at e6
 refine wT 1 [] 2 2 [117] [(2,(.slice ay g1.length a0))] rfl fun _=>?_
 obtain⟨l3,hK,et,h5,lR⟩:=OS.frz bl b9 (i:=1) rfl;have et:HS _ _ _ [_,[]] _:=et;refine am ⟨.inr rfl,_,rfl,ay,a0,g1,_,(fT (fT (ez) ci) hK),(HS.forget et),rfl,h5,(fun _=>rl_fin (by omega) hb hD),(fun h=>absurd (hv.symm.trans h) (by decide))⟩
end Go.Proofs.YtknafdcgpaejlaaDoor.ni
