/-
Live registers: the reference points and calls. No condition but bounds on lengths.
-/
import Derived.Test.YtknafdcgpaejlaaDoorZMMI
noncomputable section
namespace Go.Proofs.YtknafdcgpaejlaaDoor.mj
open Go.R
set_option maxRecDepth 10000
set_option maxHeartbeats 2000000
set_option linter.unusedVariables false
set_option linter.unusedSimpArgs false
variable (ex:FuncId) {F:Fz} {H:Heap} {R:List Fp}
open m1 m2 m3 m4 m5 m6 ma ml mb mc md mf mg mh mi
theorem reads6{v:VInT}(T:v.i.op=6)(x:Int):x∈ak v↔x∈v.args:=by
 have A:alV v.i.op=true:=by rw[T];rfl
 have E:(aN v.i.op).ra=false:=by rw[T];rfl
 have N:(aN v.i.op).rb=false:=by rw[T];rfl
 unfold ak;rw[if_pos A,kH];unfold je;rw[E,N,if_neg (by simp),if_neg (by simp),if_neg (by omega),if_pos T];simp
theorem ac_lst{c:VFnT}{b i:Nat}{l:List Int}(v:VF c)(E:b<c.blocks.length)(hi:i<(aW c b).ins.length)(h:Lst l (ptS c b (i+1))):Lst (acV ((aW c b).ins.getD i default) l) (acI c b i):=by
 unfold acV;have N:=bu (v.ins b E i hi);split
 ·rename_i A;refine Lst.ext (Lst.addL (l:=ak ((aW c b).ins.getD i default)) (Lst.minus (w:=[((aW c b).ins.getD i default).i.a]) h) fun x T=>(N.1 x T).1) fun r=>?_
  rw[reads6 A,a0h];unfold acI;exact⟨fun h=>⟨A,h⟩,fun h=>h.2⟩
 rename_i A;exact Lst.nil fun r h=>A h.1
def acJ(c:VFnT)(b k r:Nat):Prop:=acK c b r\/∃j,j<k/\acI c b j r
theorem acj_zero{c:VFnT}{b:Nat}{o:List Int}(h:Lst o (acK c b)):Lst o (acJ c b 0):=Lst.ext h fun r=>⟨.inl,fun h=>h.elim id fun⟨j,h,_⟩=>absurd h (a0U _)⟩
theorem acj_step{c:VFnT}{b k:Nat}{o l:List Int}(h:Lst o (acJ c b k))(N:Lst l (acI c b k)):Lst (cJ o l) (acJ c b (k+1)):=Lst.ext (Lst.union h N) fun r=>by
 unfold acJ;constructor
 ·rintro((h|⟨j,E,A⟩)|h)
  ·exact .inl h
  ·exact .inr ⟨j,by omega,A⟩
  exact .inr ⟨k,a1t _,h⟩
 rintro(h|⟨j,E,A⟩)
 ·exact .inl (.inl h)
 rcases a0i j k with hj|hj
 ·exact .inl (.inr ⟨j,hj,A⟩)
 rw[show j=k by omega]at A;exact .inr A
theorem acj_all{c:VFnT}{b k:Nat}{o:List Int}(U:(aW c b).ins.length=k)(h:Lst o (acJ c b k)):Lst o (acK c (b+1)):=Lst.ext h fun r=>by
 unfold acJ acK;constructor
 ·rintro(⟨T,j,N,A,E⟩|⟨j,N,A⟩)
  ·exact⟨T,j,by omega,A,E⟩
  exact⟨b,j,a1t _,by omega,A⟩
 rintro⟨T,j,N,A,E⟩;rcases a0i T b with hb|hb
 ·exact .inl ⟨T,j,hb,A,E⟩
 have:T=b:=by omega
 subst this;exact .inr ⟨j,by omega,E⟩
theorem ack_zero{c:VFnT}:Lst [] (acK c 0):=Lst.nil fun r ⟨b,_,A,_⟩=>a0U _ A
theorem ack_all{c:VFnT}{b:Nat}{o:List Int}(A:b=c.blocks.length)(h:Lst o (acK c b)):Lst o (acS c):=by subst A;exact h
theorem aci_lt{c:VFnT}(v:VF c){b i r:Nat}(E:b<c.blocks.length)(hi:i<(aW c b).ins.length)(h:acI c b i r):(r:Int)<c.regs:=by
 rcases h with⟨N,⟨A,_⟩|A⟩
 ·exact eZ v E A
 exact((bu (v.ins b E i hi)).1 _ ((reads6 N _).2 A)).2
theorem ack_lt{c:VFnT}(v:VF c){k r:Nat}(T:k<=c.blocks.length)(h:acK c k r):(r:Int)<c.regs:=by obtain⟨b,i,N,A,E⟩:=h;exact aci_lt v (by omega) A E
theorem acj_lt{c:VFnT}(v:VF c){b k r:Nat}(N:b<c.blocks.length)(T:k<=(aW c b).ins.length)(h:acJ c b k r):(r:Int)<c.regs:=by
 rcases h with h|⟨j,E,A⟩
 ·exact ack_lt v (a20 N) h
 exact aci_lt v N (by omega) A
theorem acV_len{v:VInT}{l:List Int}:(acV v l).length<=l.length+(3+v.args.length):=by
 unfold acV;split
 ·refine a0d en ?_;have A:(bZ l [v.i.a]).length<=l.length:=a16 _ _;have E:=dg (v:=v);omega
 exact a0p _
theorem rlp_c{T:Option Addr}{U:Nat}(c:VFnT)(block:Int)(hs:HS (.of H []) F H [] R)(dd:in64 c.params)(dk:in64 c.regs)(E:SR F (sL T c.blocks.length U) c.blocks)(et:in64 block)(hT:TB 37 tabC F)(ck: ∀j,(c.blocks.getD j default).ins.length<=1073741824):kKt ex 30 [(aG [(iI c.params),(iI c.regs),(sL T c.blocks.length U)]),(iI block)] H fun v H'=> ∃(al:Option Addr) (kl:Nat) (l:List (List Int)) (F':Fz),Fz.le F F'/\HS (.of H []) F' H' [] R/\v=sL al l.length kl/\SR F' (sL al l.length kl) l/\(bY c=true->0<=block->block<(c.blocks.length:Int)->PtF c block.toNat l)/\((bY c=false\/block<0\/(c.blocks.length:Int)<=block)->l=[]):=by
 refine aD Tryd.func30 rfl rfl (zf 1 (aa (aB (aU hs rfl rfl) rfl rfl ?_)));rintro _ H2 _ ⟨b1,rfl,(ax:HS _ _ _ [(fP b1 [(iI c.params),(iI c.regs),(sL T c.blocks.length U)])] _),_⟩;let ag:Value:=(aG [(iI c.params),(iI c.regs),(sL T c.blocks.length U)])
 refine za (sL none 0 0) (au 3 rfl (aa (wUo 1 0 [(0,.o ag)] 7 7 [] [(7,ag)] (qn 24 0 3 (HS.hc ax (i:=0) rfl) rfl rfl rfl rfl) rfl fun _=>zc (m3.fo ex c (HS.call ax) (by omega) (by omega) E hT (fun j=>a0d (ck j) (by omega))) ?_)));rintro _ H4 ⟨r4,F4,ad,V,rfl,rfl⟩;replace V:HS _ _ _ [_] _:=HS.back ax rfl V;replace hT:=hT.mono ad;replace E:=E.mono ad;refine wUo 12 2 [(10,.o (sL T c.blocks.length U))] 9 20 [] [(20,(.bool (((!(bY c))||(decide (block<0)))||(decide ((c.blocks.length:Int)<=block)))))] (fun(g1:((!(bY c))||(decide (block<0)))=false)=>(ql 22 2 (HS.hc V (i:=0) rfl) rfl rfl)) rfl fun _=>au 1 rfl (zi 1 2 (fun c6=>?_) fun c6=>?_)
 ·try simp only[BS]at c6
  have hb:=c6;refine wT 1 [] 4 4 [] [(4,(sL none 0 0))] rfl fun _=>aj ⟨.inr rfl,_,rfl,none,0,([]:List (List Int)),_,(ad),(HS.forget V),rfl,(SR.nil:SR F4 (sL none 0 0) ([]:List (List Int))),(by first|exact fun h h2 h3=>absurd hb (by simp[h];omega)|exact fun _ _ _=>ptf_of (bk.hy _ ai) (by assumption)),(by first|exact fun _=>rfl|exact fun h=>by rw[hv]at h;simp at h;omega)⟩
 try simp only[BS]at c6
 have hb:=c6;have hv:bY c=true:=hb.1.1;have vF:=fB hv;have f3:=vF.nb;have ai:block.toNat<c.blocks.length:=by omega
 have em:=ck block.toNat;refine aa (wUo 1 0 [(0,.o ag)] 22 22 [] [(22,ag)] (qn 24 0 3 (HS.hc V (i:=0) rfl) rfl rfl rfl rfl) rfl fun _=>zc (mi.rblocks_c ex c (HS.call V) (by omega) (by omega) E hT (by assumption)) ?_);rintro _ H9 ⟨dv,d3,x9,a7,a8,y9,F9,av,N,rfl,dn,aw,d2,d1⟩;replace N:HS _ _ _ [_] _:=HS.back V rfl N;replace hT:=hT.mono av;replace E:=E.mono av;refine wTo 5 2 [] 24 25 [5,6,21] [(6,(sL a7 y9.length a8))] rfl fun _=>ze 2 ?_
 have bk:=(by assumption:bY c=true->BkF c _ y9) hv;have f1:=bk.lx;have f2:=bk.ly;have f4:=Lst.len (bk.hy block.toNat ai) vF.regs.1 (fun r h=>gU vF h);refine aI rfl (zp 2 (zl 2 (HS.hc N.log0 (i:=0) rfl) (zfm (iI block) (zy BlkT block (SR.sv E N.log0) ?_))));obtain⟨c7,b2,bz⟩:=Sv.at (SR.sv E N.log0) (aq (x:=default) (show block.toNat<c.blocks.length from by omega));obtain⟨a1,a4,rfl,cc,ch,ci,co,a5⟩:=b2;refine aJ (v:=(aG [(sL a1 (c.blocks.getD block.toNat default).ins.length a4),(iI (c.blocks.getD block.toNat default).fin),(iI (c.blocks.getD block.toNat default).reg),(iI (c.blocks.getD block.toNat default).tgt),(iI (c.blocks.getD block.toNat default).els)])) (id:= .l (sB (sL T c.blocks.length U))) (bK (i:=0) rfl rfl rfl bz rfl rfl rfl) rfl rfl (bT rfl) (kb rfl) (zfm (sL a7 y9.length a8) (zfm (iI block) (zy (List Int) block (SR.sv aw N.log0) ?_)));obtain⟨c8,b3,b0⟩:=Sv.at (SR.sv aw N.log0) (aq (x:=default) (show block.toNat<y9.length from by omega));obtain⟨b9,c0,rfl,a6⟩:=b3;refine zl 0 b0 (bc (W:=[]) (aS rfl rfl rfl) rfl rfl rfl (mh.rpoints_c ex (c.blocks.getD block.toNat default) (y9.getD block.toNat default) (HS.call N.log0) a5 (by omega) (by omega) (by omega) (by omega) a6 hT (⟨_,rpo_out vF ai em (bk.hy _ ai)⟩)) (kb rfl) ?_);rintro _ b6 ⟨an,ay,a9,b7,ds,bb,A,rfl,a3,c9⟩;refine⟨Wr.did A.log,fun b5 a2=>?_⟩;replace A:=HS.back N.log0 rfl A;replace A:=HS.lg A N a2;generalize ({b6 with log:=b5}:Heap)=c4 at A⊢;have A:HS _ _ _ [_,b7] _:=A;refine fa (sL an a9.length ay) rfl rfl rfl (bf (zf 1 ?_));obtain⟨dt,bl,Z,b4,dl⟩:=OS.frz a3 A (i:=1) rfl;have Z:HS _ _ _ [_,[]] _:=Z;refine aj ⟨.inr rfl,_,rfl,an,ay,a9,_,(fT (fT (fT (ad) av) bb) bl),(HS.forget Z),rfl,b4,(fun _ _ _=>ptf_of (bk.hy _ ai) (by assumption)),(by exact fun h=>by rw[hv]at h;simp at h;omega)⟩
theorem rac_c{U:Option Addr}{V:Nat}(c:VFnT)(hs:HS (.of H []) F H [] R)(hf:in64 c.params)(hg:in64 c.regs)(A:SR F (sL U c.blocks.length V) c.blocks)(hT:TB 37 tabC F)(hx: ∀j,(c.blocks.getD j default).ins.length<=1073741824):kKt ex 70 [(aG [(iI c.params),(iI c.regs),(sL U c.blocks.length V)])] H fun v H'=> ∃(ar:Option Addr) (kr:Nat) (r:List Int) (F':Fz),Fz.le F F'/\HS (.of H []) F' H' [] R/\v=sL ar r.length kr/\SR F' (sL ar r.length kr) r/\(bY c=true->Lst r (acS c))/\(bY c=false->r=[]):=by
 refine aD Tryd.func70 rfl rfl (zf 1 (aa (aB (aU hs rfl rfl) rfl rfl ?_)));rintro _ H2 _ ⟨b1,rfl,(e3:HS _ _ _ [(fP b1 [(iI c.params),(iI c.regs),(sL U c.blocks.length V)])] _),_⟩;let ch:Fp:=(fP b1 [(iI c.params),(iI c.regs),(sL U c.blocks.length V)])
 refine za (sL none 0 0) (ze 2 (wT 3 [] 1 0 [3] [(3,(sL none 0 0))] rfl fun _=>wT 2 [] 1 0 [4] [(4,(iI 0))] rfl fun _=>ae (fun(mm:Nat) f H'=> ∃(o:List Int) (b:Nat) (al:Option Addr) (av:Nat) (F':Fz),Fz.le F F'/\HS (Base.of H []) F' H' [ch] R/\SR F' (sL al o.length av) o/\ap f [(1,(pT b1 0)),(3,(sL al o.length av)),(4,(iI (b:Int)))]/\mm=c.blocks.length-b/\(bY c=false->o=[])/\(bY c=true->Lst o (acK c b))/\(bY c=true->b<=c.blocks.length)/\(b<=1000)) _ ⟨([]:List Int),0,none,0,_,fR,e3,(SR.nil:SR F (sL none 0 0) ([]:List Int)),⟨rfl,rfl,rfl,trivial⟩,rfl,(fun _=>rfl),(fun _=>ack_zero),(fun _=>a0p _),(by omega)⟩ ?_));rintro hw f5 H5 ⟨o,b,al,av,F5,bk,a0,an,dk,rfl,hz,ho,hbb,hu⟩ e4;refine ah _ dk (fun _=>?_);clear dk;replace hT:=hT.mono bk;replace A:=A.mono bk;refine zf 2 (kB 7 15 [] [(15,(.bool ((decide ((b:Int)<(c.blocks.length:Int)))&&bY c)))] (fun H'=> ∃F',Fz.le F5 F'/\HS (Base.of H []) F' H' [ch] R) ?_ ?_)
 ·refine aa (zm (iI (b:Int)) (aO (v:=(pT b1 2)) (dO rfl rfl) rfl rfl (aO (v:=(sL U c.blocks.length V)) (b8 (i:=2) rfl rfl (HS.hc a0 (i:=0) rfl) rfl rfl) rfl rfl (aO (v:=(iI (c.blocks.length:Int))) (fZ (α:=BlkT) rfl rfl (SR.sv A a0)) rfl rfl (aO (v:=(.bool (decide ((b:Int)<(c.blocks.length:Int))))) (jF rfl rfl rfl rfl) rfl rfl ?_)))));refine zm (.bool (decide ((b:Int)<(c.blocks.length:Int)))) (wo_gsT (v:=(decide ((b:Int)<(c.blocks.length:Int)))) rfl rfl (fun g8=>?_) (fun g8=>?_))
  ·have cc:=g8;try simp only[BS]at cc
   refine aO (v:=(aG [(iI c.params),(iI c.regs),(sL U c.blocks.length V)])) (bK (i:=0) rfl rfl rfl (HS.hc a0 (i:=0) rfl) rfl rfl rfl) rfl rfl (ca rfl g8 (zc (m3.fo ex c (HS.call a0) (by omega) (by omega) A hT (fun j=>a0d (hx j) (by omega))) ?_));rintro _ H9 ⟨r9,F9,e2,b6,rfl,rfl⟩;replace b6:HS _ _ _ [_] _:=HS.back a0 rfl b6;refine aO (v:=(.bool (bY c))) (eR rfl g8 rfl) rfl rfl (dQ ?_);exact aK ⟨rfl,⟨_,(fT fR e2),HS.sub b6 (List.Sublist.refl _)⟩,(by repeat' first|exact Lr|refine Lu rfl ?_),(agC (congrArg Value.bool (show bY c=((decide ((b:Int)<(c.blocks.length:Int)))&&bY c) by simp only[↓g8,BT])) agN)⟩
  have cc:=g8;try simp only[BS]at cc
  refine br rfl g8 rfl (aO (v:=(.bool false)) (ej rfl g8 rfl) rfl rfl (dQ ?_));exact aK ⟨rfl,⟨_,fR,HS.sub a0 (List.Sublist.refl _)⟩,(by repeat' first|exact Lr|refine Lu rfl ?_),(agC (congrArg Value.bool (show false=((decide ((b:Int)<(c.blocks.length:Int)))&&bY c) by simp only[↓g8,BT])) agN)⟩
 skip;rintro g7 H7 ⟨F7,a6,bl⟩;replace hT:=hT.mono a6;replace A:=A.mono a6;replace an:=an.mono a6;refine aA 1 rfl (zi 4 5 (fun a5=>?_) fun a5=>?_)
 ·try simp only[BS]at a5
  have hS:=a5;have hv:bY c=true:=hS.2;have vF:=fB hv;have i3:=vF.nb;have hE:=vF.regs;have a1:b<c.blocks.length:=by omega
  have i1:=hx b;let dl:Value:=(aG [(iI c.params),(iI c.regs),(sL U c.blocks.length V)])
  refine aa (wUo 2 0 [(0,.o dl)] 18 19 [] [(18,dl),(19,(iI (b:Int)))] (qn 24 0 3 (HS.hc bl (i:=0) rfl) rfl rfl rfl rfl) rfl fun _=>zc (rlp_c ex c (b:Int) (HS.call bl) (by omega) (by omega) A (by omega) hT (by assumption)) ?_);rintro _ hr ⟨a7,bb,T,em,a2,a9,rfl,a3,ha,g9⟩;replace a9:HS _ _ _ [_] _:=HS.back bl rfl a9;replace an:=an.mono a2;refine za (sL a7 T.length bb) (ze 2 ?_);have pf:PtF c b T:=(by assumption:bY c=true->0<=((b:Nat):Int)->((b:Nat):Int)<(c.blocks.length:Int)->PtF c ((b:Nat):Int).toNat T) hv (by omega) (by omega);have jb:(T).length=(c.blocks.getD b default).ins.length+1:=pf.len;refine wT 2 [] 1 0 [6] [(6,(iI 0))] rfl fun _=>ae (fun(mm:Nat) f H'=> ∃(o2:List Int) (k:Nat) (ad:Option Addr) (ag:Nat) (F':Fz),Fz.le em F'/\HS (Base.of H []) F' H' [ch] R/\SR F' (sL ad o2.length ag) o2/\ap f [(1,(pT b1 0)),(3,(sL ad o2.length ag)),(4,(iI (b:Int))),(5,(sL a7 T.length bb)),(6,(iI (k:Int)))]/\mm=(c.blocks.getD b default).ins.length-k/\(k<=(c.blocks.getD b default).ins.length)/\(Lst o2 (acJ c b k))) _ ⟨o,0,al,av,_,fR,a9,an,⟨rfl,rfl,rfl,rfl,rfl,trivial⟩,rfl,(by omega),(acj_zero (ho hv))⟩ ?_
  rintro hm ht et ⟨o2,k,ad,ag,hn,ax,E,aw,b4,rfl,hk,b5⟩ d2;refine ah _ b4 (fun _=>?_);clear b4;replace hT:=(hT.mono a2).mono ax;replace A:=(A.mono a2).mono ax;replace a3:=a3.mono ax;refine zf 2 ?_;obtain⟨b3,b7⟩:=Sv.view (SR.sv A E);obtain⟨e5,e6,e9,fd,f9⟩:=BlkT.fx (b7 b);refine wR 1 [(2,.o (sL U c.blocks.length V)),(6,.o (sL (cA (b3 b) 0) (c.blocks.getD b default).ins.length (cK (b3 b) 0)))] 21 29 [] [(29,(.bool (decide ((k:Int)<((c.blocks.getD b default).ins.length:Int)))))] (vA (ql 22 2 (HS.hc E (i:=0) rfl) rfl rfl) (vA (Sv.ix (j:=(b:Int)) (SR.sv A E)) (vA (ql 46 0 (BlkT.vw (b7 b)) rfl rfl) trivial))) rfl fun _=>zd 3 5 (fun e1=>?_) fun e1=>?_
  ·have b2:k<(c.blocks.getD b default).ins.length:=by omega
   have ja:=Lst.len b5 hE.1 (fun r h=>acj_lt vF a1 hk h);have hR:(((T).getD (k+1) default).length:Int)<=c.regs:=Lst.len (pf.pt (k+1) b2) hE.1 (fun r h=>eZ vF a1 h);have he:(((T).getD (((k:Nat):Int)+1).toNat default).length:Int)<=c.regs:=hR;have hh:((c.blocks.getD b default).ins.getD k default).args.length<=6:=(bu (vF.ins b a1 k b2)).2.2;have i2:=acV_len (v:=((c.blocks.getD b default).ins.getD k default)) (l:=(T).getD (((k:Nat):Int)+1).toNat default);refine aI rfl (zfm (sL ad o2.length ag) (zp 2 (zl 2 (HS.hc E.log0 (i:=0) rfl) (zfm (iI (b:Int)) (zx BlkT b (SR.sv A E.log0) ?_)))));refine wfv (v:=(.pointer (some ⟨sB (sL U c.blocks.length V),sO (sL U c.blocks.length V)+b*Rp.sz BlkT,none⟩))) (dO rfl rfl) ?_;obtain⟨g5,dv,ds⟩:=Sv.at (SR.sv A E.log0) (aq (x:=default) (show b<c.blocks.length from by omega));obtain⟨ci,c8,rfl,fi,f0,f1,f2,bz⟩:=dv;refine zl 0 ds (zfm (iI (k:Int)) (zx VInT k (SR.sv bz E.log0) ?_));obtain⟨g6,d1,dt⟩:=Sv.at (SR.sv bz E.log0) (aq (x:=default) (show k<(c.blocks.getD b default).ins.length from by omega));obtain⟨co,c9,rfl,f3,f4,f6,f7,f8,dd⟩:=d1;refine aJ (v:=(aG [(iI ((c.blocks.getD b default).ins.getD k default).i.op),(iI ((c.blocks.getD b default).ins.getD k default).i.a),(iI ((c.blocks.getD b default).ins.getD k default).i.b),(iI ((c.blocks.getD b default).ins.getD k default).i.c),(iI ((c.blocks.getD b default).ins.getD k default).i.n),(sL co ((c.blocks.getD b default).ins.getD k default).args.length c9)])) (id:= .l (sB (sL ci (c.blocks.getD b default).ins.length c8))) (bK (i:=0) rfl rfl rfl dt rfl rfl rfl) rfl rfl (bT rfl) (kb rfl) (zfm (sL a7 T.length bb) (zfm (iI (k:Int)) (bc (W:=[]) (aS rfl rfl rfl) rfl rfl rfl (mh.lC ex T (k:Int) (HS.call E.log0) a3 (by omega) hT (by omega)) (⟨.inl rfl,⟨.inl rfl,⟨.inr a0c,⟨.inr trivial,⟨.inr trivial,⟨.inr a0c,⟨.inr trivial,⟨.inr trivial,⟨.inr trivial,⟨.inr a0c,⟨.inr trivial,⟨.inr trivial,trivial⟩⟩⟩⟩⟩⟩⟩⟩⟩⟩⟩⟩) ?_)));rintro _ _ ⟨g3,hj,hA,rfl,rfl,c5,rfl⟩;refine⟨fun b hb=>absurd hb a0c,fun d3 c0=>?_⟩;have a4:=HS.lg E.log0 E c0;generalize ({{et with log:=[]} with log:=d3}:Heap)=g0 at a4⊢;refine bc (W:=[]) (aS rfl rfl rfl) rfl rfl rfl (mh.acall_c ex ((c.blocks.getD b default).ins.getD k default) (T.getD ((k:Int)+1).toNat default) (HS.call a4.log0) (by omega) (by omega) (by omega) (by omega) (by omega) dd c5 hT (by omega) (by omega)) (kb rfl) ?_;rintro _ ez ⟨g4,hl,hB,hp,a8,N,rfl,c6,rfl⟩;refine⟨Wr.did N.log,fun d4 c3=>?_⟩;replace N:=HS.back a4.log0 rfl N;replace N:=HS.lg N a4 c3;generalize ({ez with log:=d4}:Heap)=g1 at N⊢;have N:HS _ _ _ [_] _:=N;replace hT:=hT.mono a8;replace aw:=aw.mono a8;refine bc (W:=[]) (aS rfl rfl rfl) rfl rfl rfl (ma.eH ex o2 (acV ((c.blocks.getD b default).ins.getD k default) (T.getD ((k:Int)+1).toNat default)) (HS.call N.log0) aw c6 hT (by omega)) (kb rfl) ?_;rintro _ e0 ⟨b0,b9,hC,hq,dn,Z,rfl,c7,rfl⟩;refine⟨Wr.did Z.log,fun ea c4=>?_⟩;replace Z:=HS.back N.log0 rfl Z;replace Z:=HS.lg Z N c4;generalize ({e0 with log:=ea}:Heap)=g2 at Z⊢;have Z:HS _ _ _ [_] _:=Z;refine fa (sL b0 (cJ o2 (acV ((c.blocks.getD b default).ins.getD k default) (T.getD ((k:Int)+1).toNat default))).length b9) rfl rfl rfl (bf (aA 2 rfl (wU 1 [] 30 31 [6] [(6,(iI ((k:Int)+1)))] (vi (n:=(k:Int)+1)) rfl fun _=>d2 _ _ _ ?_ ⟨cJ o2 (acV ((c.blocks.getD b default).ins.getD k default) (T.getD ((k:Int)+1).toNat default)),k+1,b0,b9,_,(fT (fT (ax) a8) dn),Z,c7,⟨rfl,rfl,rfl,rfl,rfl,trivial⟩,rfl,(by omega),(acj_step b5 (ac_lst vF a1 b2 (pf.pt (k+1) b2)))⟩)));omega
  refine wU 1 [] 16 17 [4] [(4,(iI ((b:Int)+1)))] (vi (n:=(b:Int)+1)) rfl fun _=>e4 _ _ _ ?_ ⟨o2,b+1,ad,ag,_,(fT (fT (fT (bk) a6) a2) ax),E,aw,⟨rfl,rfl,rfl,trivial⟩,rfl,(fun h=>absurd (hv.symm.trans h) (by decide)),(fun _=>acj_all (show(c.blocks.getD b default).ins.length=k by omega) b5),(fun _=>a1),(by omega)⟩
  omega
 try simp only[BS]at a5
 have hV:bY c=true->c.blocks.length<=b:=fun h=>by(have hc:=a5;simp only[h]at hc;simp at hc;omega)
 refine wT 1 [] 2 2 [47] [(2,(sL al o.length av))] rfl fun _=>aj ⟨.inr rfl,_,rfl,al,av,o,_,(fT (bk) a6),(HS.forget bl),rfl,an,(fun h=>ack_all (by have h2:=hbb h;have h3:=hV h;omega) (ho h)),(by assumption)⟩
end Go.Proofs.YtknafdcgpaejlaaDoor.mj
