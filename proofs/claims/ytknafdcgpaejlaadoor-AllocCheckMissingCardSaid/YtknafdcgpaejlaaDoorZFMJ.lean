/-
Live registers: the reference points and calls. No condition but bounds on lengths.
-/
import Derived.Test.YtknafdcgpaejlaaDoorZFMI
noncomputable section
namespace Go.Proofs.YtknafdcgpaejlaaDoor.mj
open Go.R
set_option maxRecDepth 10000
set_option maxHeartbeats 2000000
set_option linter.unusedVariables false
set_option linter.unusedSimpArgs false
variable (ex:FuncId) {F:Fz} {H:Heap} {R:List Fp}
open m1 m2 m3 m4 m5 m6 ma ml mb mc md mf mg mh mi
theorem reads6{v:VInT}(z:v.i.op=6)(x:Int):x∈aB v↔x∈v.args:=by
 have A:alV v.i.op=true:=by rw[z];rfl
 have E:(aM v.i.op).ra=false:=by rw[z];rfl
 have N:(aM v.i.op).rb=false:=by rw[z];rfl
 unfold aB;rw[if_pos A,uni_mem];unfold iG;rw[E,N,if_neg (by simp),if_neg (by simp),if_neg (by omega),if_pos z];simp
theorem ac_lst{c:VFnT}{b i:Nat}{l:List Int}(v:VF c)(A:b<c.blocks.length)(hi:i<(aR c b).ins.length)(h:Lst l (ptS c b (i+1))):Lst (acV ((aR c b).ins.getD i default) l) (acI c b i):=by
 unfold acV;have E:=bu (v.ins b A i hi);split
 ·rename_i z;refine Lst.ext (Lst.addL (l:=aB ((aR c b).ins.getD i default)) (Lst.minus (w:=[((aR c b).ins.getD i default).i.a]) h) fun x N=>(E.1 x N).1) fun r=>?_
  rw[reads6 z,a0d];unfold acI;exact⟨fun h=>⟨z,h⟩,fun h=>h.2⟩
 rename_i z;exact Lst.nil fun r h=>z h.1
def acJ(c:VFnT)(b k r:Nat):Prop:=acK c b r\/∃j,j<k/\acI c b j r
theorem acj_zero{c:VFnT}{b:Nat}{o:List Int}(h:Lst o (acK c b)):Lst o (acJ c b 0):=Lst.ext h fun r=>⟨.inl,fun h=>h.elim id fun⟨j,h,_⟩=>absurd h (a0u _)⟩
theorem acj_step{c:VFnT}{b k:Nat}{o l:List Int}(h:Lst o (acJ c b k))(z:Lst l (acI c b k)):Lst (cH o l) (acJ c b (k+1)):=Lst.ext (Lst.union h z) fun r=>by
 unfold acJ;constructor
 ·rintro((h|⟨j,E,A⟩)|h)
  ·exact .inl h
  ·exact .inr ⟨j,by omega,A⟩
  exact .inr ⟨k,a1r _,h⟩
 rintro(h|⟨j,E,A⟩)
 ·exact .inl (.inl h)
 rcases a0k j k with hj|hj
 ·exact .inl (.inr ⟨j,hj,A⟩)
 rw[show j=k by omega]at A;exact .inr A
theorem acj_all{c:VFnT}{b k:Nat}{o:List Int}(T:(aR c b).ins.length=k)(h:Lst o (acJ c b k)):Lst o (acK c (b+1)):=Lst.ext h fun r=>by
 unfold acJ acK;constructor
 ·rintro(⟨z,j,N,A,E⟩|⟨j,N,A⟩)
  ·exact⟨z,j,by omega,A,E⟩
  exact⟨b,j,a1r _,by omega,A⟩
 rintro⟨z,j,N,A,E⟩;rcases a0k z b with hb|hb
 ·exact .inl ⟨z,j,hb,A,E⟩
 have:z=b:=by omega
 subst this;exact .inr ⟨j,by omega,E⟩
theorem ack_zero{c:VFnT}:Lst [] (acK c 0):=Lst.nil fun r ⟨b,_,A,_⟩=>a0u _ A
theorem ack_all{c:VFnT}{b:Nat}{o:List Int}(z:b=c.blocks.length)(h:Lst o (acK c b)):Lst o (acS c):=by subst z;exact h
theorem aci_lt{c:VFnT}(v:VF c){b i r:Nat}(z:b<c.blocks.length)(hi:i<(aR c b).ins.length)(h:acI c b i r):(r:Int)<c.regs:=by
 rcases h with⟨E,⟨A,_⟩|A⟩
 ·exact cz v z A
 exact((bu (v.ins b z i hi)).1 _ ((reads6 E _).2 A)).2
theorem iT{c:VFnT}(v:VF c){k r:Nat}(z:k<=c.blocks.length)(h:acK c k r):(r:Int)<c.regs:=by obtain⟨b,i,N,A,E⟩:=h;exact aci_lt v (by omega) A E
theorem acj_lt{c:VFnT}(v:VF c){b k r:Nat}(z:b<c.blocks.length)(N:k<=(aR c b).ins.length)(h:acJ c b k r):(r:Int)<c.regs:=by
 rcases h with h|⟨j,E,A⟩
 ·exact iT v (a1C z) h
 exact aci_lt v z (by omega) A
theorem acV_len{v:VInT}{l:List Int}:(acV v l).length<=l.length+(3+v.args.length):=by
 unfold acV;split
 ·refine a0c ev ?_;have A:(dR l [v.i.a]).length<=l.length:=a13 _ _;have E:=d9 (v:=v);omega
 exact a0D _
theorem rlp_c{T:Option Addr}{U:Nat}(c:VFnT)(block:Int)(hs:HS (.of H []) F H [] R)(c9:in64 c.params)(dd:in64 c.regs)(E:SR F (sL T c.blocks.length U) c.blocks)(et:in64 block)(hT:TB 37 tabC F)(a0: ∀j,(c.blocks.getD j default).ins.length<=1073741824):kKt ex 30 [(aG [(iI c.params),(iI c.regs),(sL T c.blocks.length U)]),(iI block)] H fun v H'=> ∃(al:Option Addr) (kl:Nat) (l:List (List Int)) (F':Fz),Fz.le F F'/\HS (.of H []) F' H' [] R/\v=sL al l.length kl/\SR F' (sL al l.length kl) l/\(bP c=true->0<=block->block<(c.blocks.length:Int)->PtF c block.toNat l)/\((bP c=false\/block<0\/(c.blocks.length:Int)<=block)->l=[]):=by
 refine au Tryd.func30 rfl rfl (zf 1 (aa (az (aU hs rfl rfl) rfl rfl ?_)));rintro _ H2 _ ⟨b1,rfl,(ax:HS _ _ _ [(fP b1 [(iI c.params),(iI c.regs),(sL T c.blocks.length U)])] _),_⟩;let ag:Value:=(aG [(iI c.params),(iI c.regs),(sL T c.blocks.length U)])
 refine za (sL none 0 0) (aD 3 rfl (aa (wUo 1 0 [(0,.o ag)] 7 7 [] [(7,ag)] (qn 24 0 3 (HS.hc ax (i:=0) rfl) rfl rfl rfl rfl) rfl fun _=>zc (m3.fQ ex c (HS.call ax) (by omega) (by omega) E hT (fun j=>a0c (a0 j) (by omega))) ?_)));rintro _ H4 ⟨r4,F4,ad,V,rfl,rfl⟩;replace V:HS _ _ _ [_] _:=HS.back ax rfl V;replace hT:=hT.mono ad;replace E:=E.mono ad;refine wUo 12 2 [(10,.o (sL T c.blocks.length U))] 9 20 [] [(20,(.bool (((!(bP c))||(decide (block<0)))||(decide ((c.blocks.length:Int)<=block)))))] (fun(g1:((!(bP c))||(decide (block<0)))=false)=>(ql 22 2 (HS.hc V (i:=0) rfl) rfl rfl)) rfl fun _=>aD 1 rfl (zi 1 2 (fun c6=>?_) fun c6=>?_)
 ·try simp only[BS]at c6
  have hb:=c6;refine wT 1 [] 4 4 [] [(4,(sL none 0 0))] rfl fun _=>aj ⟨.inr rfl,_,rfl,none,0,([]:List (List Int)),_,(ad),(HS.forget V),rfl,(SR.nil:SR F4 (sL none 0 0) ([]:List (List Int))),(by first|exact fun h h2 h3=>absurd hb (by simp[h];omega)|exact fun _ _ _=>ptf_of (bk.hy _ z) (by assumption)),(by first|exact fun _=>rfl|exact fun h=>by rw[hv]at h;simp at h;omega)⟩
 try simp only[BS]at c6
 have hb:=c6;have hv:bP c=true:=hb.1.1;have vF:=eR hv;have f2:=vF.nb;have z:block.toNat<c.blocks.length:=by omega
 have em:=a0 block.toNat;refine aa (wUo 1 0 [(0,.o ag)] 22 22 [] [(22,ag)] (qn 24 0 3 (HS.hc V (i:=0) rfl) rfl rfl rfl rfl) rfl fun _=>zc (mi.rblocks_c ex c (HS.call V) (by omega) (by omega) E hT (by assumption)) ?_);rintro _ H9 ⟨dt,d2,x9,a7,a8,y9,F9,av,N,rfl,dl,aw,d1,dv⟩;replace N:HS _ _ _ [_] _:=HS.back V rfl N;replace hT:=hT.mono av;replace E:=E.mono av;refine wTo 5 2 [] 24 25 [5,6,21] [(6,(sL a7 y9.length a8))] rfl fun _=>ze 2 ?_
 have bk:=(by assumption:bP c=true->BkF c _ y9) hv;have f0:=bk.lx;have f1:=bk.ly;have f3:=Lst.len (bk.hy block.toNat z) vF.regs.1 (fun r h=>ij vF h);refine aI rfl (zp 2 (zl 2 (HS.hc N.log0 (i:=0) rfl) (zfm (iI block) (zy BlkT block (SR.sv E N.log0) ?_))));obtain⟨c5,b0,bl⟩:=Sv.at (SR.sv E N.log0) (aH (x:=default) (show block.toNat<c.blocks.length from by omega));obtain⟨a1,a4,rfl,b9,cc,ch,ci,a5⟩:=b0;refine aF (v:=(aG [(sL a1 (c.blocks.getD block.toNat default).ins.length a4),(iI (c.blocks.getD block.toNat default).fin),(iI (c.blocks.getD block.toNat default).reg),(iI (c.blocks.getD block.toNat default).tgt),(iI (c.blocks.getD block.toNat default).els)])) (id:= .l (sB (sL T c.blocks.length U))) (bL (i:=0) rfl rfl rfl bl rfl rfl rfl) rfl rfl (ce rfl) (kb rfl) (zfm (sL a7 y9.length a8) (zfm (iI block) (zy (List Int) block (SR.sv aw N.log0) ?_)));obtain⟨c7,b2,bz⟩:=Sv.at (SR.sv aw N.log0) (aH (x:=default) (show block.toNat<y9.length from by omega));obtain⟨b7,co,rfl,a6⟩:=b2;refine zl 0 bz (aZ (W:=[]) (aV rfl rfl rfl) rfl rfl rfl (mh.rpoints_c ex (c.blocks.getD block.toNat default) (y9.getD block.toNat default) (HS.call N.log0) a5 (by omega) (by omega) (by omega) (by omega) a6 hT (⟨_,rpo_out vF z em (bk.hy _ z)⟩)) (kb rfl) ?_);rintro _ b5 ⟨an,ay,a9,b6,dn,bb,A,rfl,a3,c8⟩;refine⟨Wr.did A.log,fun b4 a2=>?_⟩;replace A:=HS.back N.log0 rfl A;replace A:=HS.lg A N a2;generalize ({b5 with log:=b4}:Heap)=c3 at A⊢;have A:HS _ _ _ [_,b6] _:=A;refine fa (sL an a9.length ay) rfl rfl rfl (bm (zf 1 ?_));obtain⟨ds,be,Z,b3,dk⟩:=OS.frz a3 A (i:=1) rfl;have Z:HS _ _ _ [_,[]] _:=Z;refine aj ⟨.inr rfl,_,rfl,an,ay,a9,_,(fT (fT (fT (ad) av) bb) be),(HS.forget Z),rfl,b3,(fun _ _ _=>ptf_of (bk.hy _ z) (by assumption)),(by exact fun h=>by rw[hv]at h;simp at h;omega)⟩
theorem rac_c{U:Option Addr}{V:Nat}(c:VFnT)(hs:HS (.of H []) F H [] R)(hg:in64 c.params)(hh:in64 c.regs)(A:SR F (sL U c.blocks.length V) c.blocks)(z:TB 37 tabC F)(hd: ∀j,(c.blocks.getD j default).ins.length<=1073741824):kKt ex 70 [(aG [(iI c.params),(iI c.regs),(sL U c.blocks.length V)])] H fun v H'=> ∃(ar:Option Addr) (kr:Nat) (r:List Int) (F':Fz),Fz.le F F'/\HS (.of H []) F' H' [] R/\v=sL ar r.length kr/\SR F' (sL ar r.length kr) r/\(bP c=true->Lst r (acS c))/\(bP c=false->r=[]):=by
 refine au Tryd.func70 rfl rfl (zf 1 (aa (az (aU hs rfl rfl) rfl rfl ?_)));rintro _ H2 _ ⟨b1,rfl,(e3:HS _ _ _ [(fP b1 [(iI c.params),(iI c.regs),(sL U c.blocks.length V)])] _),_⟩;let cc:Fp:=(fP b1 [(iI c.params),(iI c.regs),(sL U c.blocks.length V)])
 refine za (sL none 0 0) (ze 2 (wT 3 [] 1 0 [3] [(3,(sL none 0 0))] rfl fun _=>wT 2 [] 1 0 [4] [(4,(iI 0))] rfl fun _=>ah (fun(mm:Nat) f H'=> ∃(o:List Int) (b:Nat) (al:Option Addr) (av:Nat) (F':Fz),Fz.le F F'/\HS (Base.of H []) F' H' [cc] R/\SR F' (sL al o.length av) o/\am f [(1,(pT b1 0)),(3,(sL al o.length av)),(4,(iI (b:Int)))]/\mm=c.blocks.length-b/\(bP c=false->o=[])/\(bP c=true->Lst o (acK c b))/\(bP c=true->b<=c.blocks.length)/\(b<=1000)) _ ⟨([]:List Int),0,none,0,_,fR,e3,(SR.nil:SR F (sL none 0 0) ([]:List Int)),⟨rfl,rfl,rfl,trivial⟩,rfl,(fun _=>rfl),(fun _=>ack_zero),(fun _=>a0D _),(by omega)⟩ ?_));rintro hA f5 H5 ⟨o,b,al,av,F5,be,a0,an,dd,rfl,hz,ho,hbb,hw⟩ e4;refine ak _ dd (fun _=>?_);clear dd;replace z:=z.mono be;replace A:=A.mono be;refine zf 2 (wk_rcut 7 15 [] [(15,(.bool ((decide ((b:Int)<(c.blocks.length:Int)))&&bP c)))] (fun H'=> ∃F',Fz.le F5 F'/\HS (Base.of H []) F' H' [cc] R) ?_ ?_)
 ·refine aa (zm (iI (b:Int)) (bB (v:=(pT b1 2)) (fJ rfl rfl) rfl rfl (bB (v:=(sL U c.blocks.length V)) (dX (i:=2) rfl rfl (HS.hc a0 (i:=0) rfl) rfl rfl) rfl rfl (bB (v:=(iI (c.blocks.length:Int))) (iA (α:=BlkT) rfl rfl (SR.sv A a0)) rfl rfl (bB (v:=(.bool (decide ((b:Int)<(c.blocks.length:Int))))) (ap_cmp rfl rfl rfl rfl) rfl rfl ?_)))));refine zm (.bool (decide ((b:Int)<(c.blocks.length:Int)))) (wo_gsT (v:=(decide ((b:Int)<(c.blocks.length:Int)))) rfl rfl (fun g8=>?_) (fun g8=>?_))
  ·have b9:=g8;try simp only[BS]at b9
   refine bB (v:=(aG [(iI c.params),(iI c.regs),(sL U c.blocks.length V)])) (bL (i:=0) rfl rfl rfl (HS.hc a0 (i:=0) rfl) rfl rfl rfl) rfl rfl (el rfl g8 (zc (m3.fQ ex c (HS.call a0) (by omega) (by omega) A z (fun j=>a0c (hd j) (by omega))) ?_));rintro _ H9 ⟨r9,F9,e2,b5,rfl,rfl⟩;replace b5:HS _ _ _ [_] _:=HS.back a0 rfl b5;refine bB (v:=(.bool (bP c))) (d6 rfl g8 rfl) rfl rfl (gF ?_);exact bc ⟨rfl,⟨_,(fT fR e2),HS.sub b5 (List.Sublist.refl _)⟩,(by repeat' first|exact Lr|refine Lu rfl ?_),(agC (congrArg Value.bool (show bP c=((decide ((b:Int)<(c.blocks.length:Int)))&&bP c) by simp only[↓g8,BT])) agN)⟩
  have b9:=g8;try simp only[BS]at b9
  refine jo rfl g8 rfl (bB (v:=(.bool false)) (fY rfl g8 rfl) rfl rfl (gF ?_));exact bc ⟨rfl,⟨_,fR,HS.sub a0 (List.Sublist.refl _)⟩,(by repeat' first|exact Lr|refine Lu rfl ?_),(agC (congrArg Value.bool (show false=((decide ((b:Int)<(c.blocks.length:Int)))&&bP c) by simp only[↓g8,BT])) agN)⟩
 skip;rintro g7 H7 ⟨F7,a6,bk⟩;replace z:=z.mono a6;replace A:=A.mono a6;replace an:=an.mono a6;refine aC 1 rfl (zi 4 5 (fun a5=>?_) fun a5=>?_)
 ·try simp only[BS]at a5
  have hS:=a5;have hv:bP c=true:=hS.2;have vF:=eR hv;have i3:=vF.nb;have hE:=vF.regs;have ay:b<c.blocks.length:=by omega
  have i1:=hd b;let dk:Value:=(aG [(iI c.params),(iI c.regs),(sL U c.blocks.length V)])
  refine aa (wUo 2 0 [(0,.o dk)] 18 19 [] [(18,dk),(19,(iI (b:Int)))] (qn 24 0 3 (HS.hc bk (i:=0) rfl) rfl rfl rfl rfl) rfl fun _=>zc (rlp_c ex c (b:Int) (HS.call bk) (by omega) (by omega) A (by omega) z (by assumption)) ?_);rintro _ ht ⟨a7,bb,T,et,a2,a9,rfl,a3,he,ha⟩;replace a9:HS _ _ _ [_] _:=HS.back bk rfl a9;replace an:=an.mono a2;refine za (sL a7 T.length bb) (ze 2 ?_);have pf:PtF c b T:=(by assumption:bP c=true->0<=((b:Nat):Int)->((b:Nat):Int)<(c.blocks.length:Int)->PtF c ((b:Nat):Int).toNat T) hv (by omega) (by omega);have jb:(T).length=(c.blocks.getD b default).ins.length+1:=pf.len;refine wT 2 [] 1 0 [6] [(6,(iI 0))] rfl fun _=>ah (fun(mm:Nat) f H'=> ∃(o2:List Int) (k:Nat) (ad:Option Addr) (ag:Nat) (F':Fz),Fz.le et F'/\HS (Base.of H []) F' H' [cc] R/\SR F' (sL ad o2.length ag) o2/\am f [(1,(pT b1 0)),(3,(sL ad o2.length ag)),(4,(iI (b:Int))),(5,(sL a7 T.length bb)),(6,(iI (k:Int)))]/\mm=(c.blocks.getD b default).ins.length-k/\(k<=(c.blocks.getD b default).ins.length)/\(Lst o2 (acJ c b k))) _ ⟨o,0,al,av,_,fR,a9,an,⟨rfl,rfl,rfl,rfl,rfl,trivial⟩,rfl,(by omega),(acj_zero (ho hv))⟩ ?_
  rintro hn hu ey ⟨o2,k,ad,ag,hp,ax,E,aw,b3,rfl,hk,b4⟩ d1;refine ak _ b3 (fun _=>?_);clear b3;replace z:=(z.mono a2).mono ax;replace A:=(A.mono a2).mono ax;replace a3:=a3.mono ax;refine zf 2 ?_;obtain⟨b2,b6⟩:=Sv.view (SR.sv A E);obtain⟨e5,e6,e9,fd,f9⟩:=BlkT.fx (b6 b);refine wR 1 [(2,.o (sL U c.blocks.length V)),(6,.o (sL (cA (b2 b) 0) (c.blocks.getD b default).ins.length (cK (b2 b) 0)))] 21 29 [] [(29,(.bool (decide ((k:Int)<((c.blocks.getD b default).ins.length:Int)))))] (vA (ql 22 2 (HS.hc E (i:=0) rfl) rfl rfl) (vA (Sv.ix (j:=(b:Int)) (SR.sv A E)) (vA (ql 46 0 (BlkT.vw (b6 b)) rfl rfl) trivial))) rfl fun _=>zd 3 5 (fun e1=>?_) fun e1=>?_
  ·have a1:k<(c.blocks.getD b default).ins.length:=by omega
   have ja:=Lst.len b4 hE.1 (fun r h=>acj_lt vF ay hk h);have hR:(((T).getD (k+1) default).length:Int)<=c.regs:=Lst.len (pf.pt (k+1) a1) hE.1 (fun r h=>cz vF ay h);have hf:(((T).getD (((k:Nat):Int)+1).toNat default).length:Int)<=c.regs:=hR;have hj:((c.blocks.getD b default).ins.getD k default).args.length<=6:=(bu (vF.ins b ay k a1)).2.2;have i2:=acV_len (v:=((c.blocks.getD b default).ins.getD k default)) (l:=(T).getD (((k:Nat):Int)+1).toNat default);refine aI rfl (zfm (sL ad o2.length ag) (zp 2 (zl 2 (HS.hc E.log0 (i:=0) rfl) (zfm (iI (b:Int)) (zx BlkT b (SR.sv A E.log0) ?_)))));refine wfv (v:=(.pointer (some ⟨sB (sL U c.blocks.length V),sO (sL U c.blocks.length V)+b*Rp.sz BlkT,none⟩))) (fJ rfl rfl) ?_;obtain⟨g6,dt,dn⟩:=Sv.at (SR.sv A E.log0) (aH (x:=default) (show b<c.blocks.length from by omega));obtain⟨ch,c7,rfl,fi,f0,f1,f2,bl⟩:=dt;refine zl 0 dn (zfm (iI (k:Int)) (zx VInT k (SR.sv bl E.log0) ?_));obtain⟨g9,dv,ds⟩:=Sv.at (SR.sv bl E.log0) (aH (x:=default) (show k<(c.blocks.getD b default).ins.length from by omega));obtain⟨ci,c8,rfl,f3,f4,f6,f7,f8,c9⟩:=dv;refine aF (v:=(aG [(iI ((c.blocks.getD b default).ins.getD k default).i.op),(iI ((c.blocks.getD b default).ins.getD k default).i.a),(iI ((c.blocks.getD b default).ins.getD k default).i.b),(iI ((c.blocks.getD b default).ins.getD k default).i.c),(iI ((c.blocks.getD b default).ins.getD k default).i.n),(sL ci ((c.blocks.getD b default).ins.getD k default).args.length c8)])) (id:= .l (sB (sL ch (c.blocks.getD b default).ins.length c7))) (bL (i:=0) rfl rfl rfl ds rfl rfl rfl) rfl rfl (ce rfl) (kb rfl) (zfm (sL a7 T.length bb) (zfm (iI (k:Int)) (aZ (W:=[]) (aV rfl rfl rfl) rfl rfl rfl (mh.lV ex T (k:Int) (HS.call E.log0) a3 (by omega) z (by omega)) (⟨.inl rfl,⟨.inl rfl,⟨.inr a0b,⟨.inr trivial,⟨.inr trivial,⟨.inr a0b,⟨.inr trivial,⟨.inr trivial,⟨.inr trivial,⟨.inr a0b,⟨.inr trivial,⟨.inr trivial,trivial⟩⟩⟩⟩⟩⟩⟩⟩⟩⟩⟩⟩) ?_)));rintro _ _ ⟨g4,hl,hB,rfl,rfl,c4,rfl⟩;refine⟨fun b hb=>absurd hb a0b,fun d2 co=>?_⟩;have a4:=HS.lg E.log0 E co;generalize ({{ey with log:=[]} with log:=d2}:Heap)=g1 at a4⊢;refine aZ (W:=[]) (aV rfl rfl rfl) rfl rfl rfl (mh.acall_c ex ((c.blocks.getD b default).ins.getD k default) (T.getD ((k:Int)+1).toNat default) (HS.call a4.log0) (by omega) (by omega) (by omega) (by omega) (by omega) c9 c4 z (by omega) (by omega)) (kb rfl) ?_;rintro _ ez ⟨g5,hm,hC,hq,a8,N,rfl,c5,rfl⟩;refine⟨Wr.did N.log,fun ea c0=>?_⟩;replace N:=HS.back a4.log0 rfl N;replace N:=HS.lg N a4 c0;generalize ({ez with log:=ea}:Heap)=g2 at N⊢;have N:HS _ _ _ [_] _:=N;replace z:=z.mono a8;replace aw:=aw.mono a8;refine aZ (W:=[]) (aV rfl rfl rfl) rfl rfl rfl (ma.eS ex o2 (acV ((c.blocks.getD b default).ins.getD k default) (T.getD ((k:Int)+1).toNat default)) (HS.call N.log0) aw c5 z (by omega)) (kb rfl) ?_;rintro _ e0 ⟨bz,b7,hD,hr,dl,Z,rfl,c6,rfl⟩;refine⟨Wr.did Z.log,fun em c3=>?_⟩;replace Z:=HS.back N.log0 rfl Z;replace Z:=HS.lg Z N c3;generalize ({e0 with log:=em}:Heap)=g3 at Z⊢;have Z:HS _ _ _ [_] _:=Z;refine fa (sL bz (cH o2 (acV ((c.blocks.getD b default).ins.getD k default) (T.getD ((k:Int)+1).toNat default))).length b7) rfl rfl rfl (bm (aC 2 rfl (wU 1 [] 30 31 [6] [(6,(iI ((k:Int)+1)))] (vi (n:=(k:Int)+1)) rfl fun _=>d1 _ _ _ ?_ ⟨cH o2 (acV ((c.blocks.getD b default).ins.getD k default) (T.getD ((k:Int)+1).toNat default)),k+1,bz,b7,_,(fT (fT (ax) a8) dl),Z,c6,⟨rfl,rfl,rfl,rfl,rfl,trivial⟩,rfl,(by omega),(acj_step b4 (ac_lst vF ay a1 (pf.pt (k+1) a1)))⟩)));omega
  refine wU 1 [] 16 17 [4] [(4,(iI ((b:Int)+1)))] (vi (n:=(b:Int)+1)) rfl fun _=>e4 _ _ _ ?_ ⟨o2,b+1,ad,ag,_,(fT (fT (fT (be) a6) a2) ax),E,aw,⟨rfl,rfl,rfl,trivial⟩,rfl,(fun h=>absurd (hv.symm.trans h) (by decide)),(fun _=>acj_all (show(c.blocks.getD b default).ins.length=k by omega) b4),(fun _=>ay),(by omega)⟩
  omega
 try simp only[BS]at a5
 have hV:bP c=true->c.blocks.length<=b:=fun h=>by(have hc:=a5;simp only[h]at hc;simp at hc;omega)
 refine wT 1 [] 2 2 [47] [(2,(sL al o.length av))] rfl fun _=>aj ⟨.inr rfl,_,rfl,al,av,o,_,(fT (be) a6),(HS.forget bk),rfl,an,(fun h=>ack_all (by have h2:=hbb h;have h3:=hV h;omega) (ho h)),(by assumption)⟩
end Go.Proofs.YtknafdcgpaejlaaDoor.mj
