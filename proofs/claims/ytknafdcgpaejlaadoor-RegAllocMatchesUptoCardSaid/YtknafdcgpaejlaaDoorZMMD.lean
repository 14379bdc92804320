/-
Live registers: Blocks, Points and AcrossCalls. No condition but bounds on lengths.
-/
import Derived.Test.YtknafdcgpaejlaaDoorZMMC
noncomputable section
namespace Go.Proofs.YtknafdcgpaejlaaDoor.md
open Go.R
set_option maxRecDepth 10000
set_option linter.unusedVariables false
set_option linter.unusedSimpArgs false
variable (ex:FuncId) {F:Fz} {H:Heap} {R:List Fp}
open m1 m2 m3 m4 m5 m6 ma ml mb mc
structure Lst(l:List Int)(S:Nat->Prop):Prop where
 asc:Asc l
 mem: ∀x,x∈l↔0<=x/\S x.toNat
theorem asc_ext: ∀{l m:List Int},Asc l->Asc m->(∀x,x∈l↔x∈m)->l=m
 | [],[],_,_,_=>rfl
 | [],y::m,_,_,h=>absurd ((h y).2 (a0y ..)) a0c
 |x::l,[],_,_,h=>absurd ((h x).1 (a0y ..)) a0c
 |x::l,y::m,hl,hm,h=>by
  replace hl:=a1C.1 hl;replace hm:=a1C.1 hm;have N:x=y:=by
   rcases a0s.1 ((h x).1 (a0y ..)) with e|e
   ·exact e
   rcases a0s.1 ((h y).2 (a0y ..)) with A|A
   ·exact A.symm
   have:=hl.1 y A;have:=hm.1 x e;omega
  subst N;congr 1;refine asc_ext hl.2 hm.2 fun z=>?_
  constructor
  ·intro E;rcases a0s.1 ((h z).1 (a0j _ E)) with e|e
   ·subst e;have:=hl.1 z E;omega
   exact e
  intro E;rcases a0s.1 ((h z).2 (a0j _ E)) with e|e
  ·subst e;have:=hm.1 z E;omega
  exact e
theorem Lst.uniq{l m:List Int}{S S':Nat->Prop}(h:Lst l S)(k:Lst m S')(hs: ∀r,S r↔S' r):l=m:=asc_ext h.asc k.asc fun x=>by rw[h.mem,k.mem,hs]
theorem lst_of{s:List U64}{S:Nat->Prop}(h: ∀r,aC s r=true↔S r):Lst (fO s) S:=⟨lst_asc,fun x=>by rw[lst_mem,h]⟩
structure BkF(c:VFnT)(x y:List (List Int)):Prop where
 lx:x.length=c.blocks.length
 ly:y.length=c.blocks.length
 hx: ∀b,b<c.blocks.length->Lst (x.getD b default) (LIn c b)
 hy: ∀b,b<c.blocks.length->Lst (y.getD b default) (kw c b)
def ptS(c:VFnT)(b i:Nat):Nat->Prop:=tr ((aW c b).ins.drop i) (endS (aW c b) (kw c b))
structure PtF(c:VFnT)(b:Nat)(l:List (List Int)):Prop where
 len:l.length=(aW c b).ins.length+1
 pt: ∀i,i<=(aW c b).ins.length->Lst (l.getD i default) (ptS c b i)
def acI(c:VFnT)(b i r:Nat):Prop:=((aW c b).ins.getD i default).i.op=6/\((ptS c b (i+1) r/\(r:Int)≠((aW c b).ins.getD i default).i.a)\/(r:Int)∈((aW c b).ins.getD i default).args)
def acS(c:VFnT)(r:Nat):Prop:= ∃b i,b<c.blocks.length/\i<(aW c b).ins.length/\acI c b i r
theorem at_snoc{α:Type}{d:α}{l:List α}{x:α}{j:Nat}:(l++[x]).getD j d=if j=l.length then x else l.getD j d:=by
 rw[a02,a02,a1L];by_cases h:j<l.length
 ·rw[if_pos h,if_neg (by omega)]
 rw[if_neg h];by_cases A:j=l.length
 ·subst A;rw[if_pos rfl,a1D];rfl
 rw[if_neg A,a0C (by simp;omega),a0C (by omega)]
theorem lst_snoc{l:List (List Int)}{S:Nat->Nat->Prop}{k:Nat}{x:List Int}(A:l.length=k)(h: ∀b,b<k->Lst (l.getD b default) (S b))(E:Lst x (S k)): ∀b,b<k+1->Lst ((l++[x]).getD b default) (S b):=fun b N=>by
 rw[at_snoc];split
 ·rename_i e;rw[A]at e;subst e;exact E
 exact h b (by omega)
theorem pt_start{c:VFnT}{b n:Nat}{s z:List U64}(A:(aW c b).ins.length<=n)(hs: ∀r,aC s r=true↔kw c b r)(h: ∀i,aC z i=(aC s i||decide ((i:Int)∈dr (aW c b))))(r:Nat):aC z r=true↔ptS c b n r:=tr_start A hs h r
set_option maxHeartbeats 1000000 in
theorem blocks_c{a8:Option Addr}{bl:Nat}(c:VFnT)(hs:HS (.of H []) F H [] R)(hR:in64 c.params)(hS:in64 c.regs)(b4:SR F (sL a8 c.blocks.length bl) c.blocks)(hT:TB 37 tabC F)(hr: ∀j,(c.blocks.getD j default).ins.length<=1073741824):kKt ex 71 [(aG [(iI c.params),(iI c.regs),(sL a8 c.blocks.length bl)])] H fun v H'=> ∃(ax:Option Addr) (kx:Nat) (x:List (List Int)) (ay:Option Addr) (ky:Nat) (y:List (List Int)) (F':Fz),Fz.le F F'/\HS (.of H []) F' H' [] R/\v= .tuple ⟨[sL ax x.length kx,sL ay y.length ky]⟩/\SR F' (sL ax x.length kx) x/\SR F' (sL ay y.length ky) y/\(bY c=true->BkF c x y)/\(bY c=false->x=[]/\y=[]):=by
 refine aD Tryd.func71 rfl rfl (zf 1 (aa (aB (aU hs rfl rfl) rfl rfl ?_)));rintro _ H2 _ ⟨b1,rfl,(d3:HS _ _ _ [(fP b1 [(iI c.params),(iI c.regs),(sL a8 c.blocks.length bl)])] _),_⟩;let dd:Value:=(aG [(iI c.params),(iI c.regs),(sL a8 c.blocks.length bl)])
 refine wTo 2 1 [] 2 3 [] [(2,(sL none 0 0)),(3,(sL none 0 0))] rfl fun _=>au 3 rfl (aa (wUo 1 0 [(0,.o dd)] 9 9 [] [(9,dd)] (qn 24 0 3 (HS.hc d3 (i:=0) rfl) rfl rfl rfl rfl) rfl fun _=>zc (m3.iZ ex c (HS.call d3) (by omega) (by omega) b4 hT (fun j=>a0d (hr j) (by omega))) ?_))
 rintro _ H5 ⟨r5,F5,c9,bz,rfl,rfl⟩;replace bz:HS _ _ _ [_] _:=HS.back d3 rfl bz;replace hT:=hT.mono c9;replace b4:=b4.mono c9;refine wTo 1 2 [] 11 11 [] [(11,(.bool (!(bY c))))] rfl fun _=>au 1 rfl (zi 1 2 (fun c7=>?_) fun c7=>?_)
 ·try simp only[BS]at c7
  have hv:=c7;refine wT 1 [] 2 3 [] [(2,(sL none 0 0)),(3,(sL none 0 0))] rfl fun _=>aj ⟨.inr rfl,_,rfl,none,0,([]:List (List Int)),none,0,([]:List (List Int)),_,(c9),(HS.forget bz),rfl,(SR.nil:SR F5 (sL none 0 0) ([]:List (List Int))),(SR.nil:SR F5 (sL none 0 0) ([]:List (List Int))),(fun h=>absurd (h.symm.trans hv) (by decide)),(fun _=>⟨rfl,rfl⟩)⟩
 try simp only[BS]at c7
 have hv:=c7;have vF:=fB hv;have lf:=vF.nb;refine aa (wUo 1 0 [(0,.o dd)] 13 13 [] [(13,dd)] (qn 24 0 3 (HS.hc bz (i:=0) rfl) rfl rfl rfl rfl) rfl fun _=>zc (mc.analyze_c ex c (HS.call bz) (by omega) (by omega) b4 hT (by assumption) (fun j=>a0d (hr j) (by omega))) ?_);rintro _ h9 ⟨b0,b9,A,a6,a7,E,he,ds,c3,rfl,a2,N,il⟩;replace c3:HS _ _ _ [_] _:=HS.back bz rfl c3;refine wTo 5 2 [] 15 16 [4,5,12] [(4,(sL b0 A.length b9)),(5,(sL a6 E.length a7))] rfl fun _=>ze 2 ?_
 have an:=(by assumption:AnF c _ _)
 have la:=an.li;have lc:=an.lo;refine wT 3 [] 1 0 [6,7] [(6,(sL none 0 0)),(7,(sL none 0 0))] rfl fun _=>wT 2 [] 17 19 [] [(18,(iI (A.length:Int))),(19,(iI 0))] rfl fun _=>?_
 have c4:=HS.snoc c3;have c4:HS _ _ _ [_,[]] _:=c4;have c5:=HS.snoc c4;have c5:HS _ _ _ [_,_,[]] _:=c5;refine ae (fun(mm:Nat) f H'=> ∃(xs:List (List Int)) (ys:List (List Int)) (k:Nat) (U:Option Addr) (ad:Nat) (a1:Fp) (V:Option Addr) (ag:Nat) (al:Fp) (F':Fz),Fz.le he F'/\HS (Base.of H []) F' H' [(fP b1 [(iI c.params),(iI c.regs),(sL a8 c.blocks.length bl)]),a1,al] R/\OS F' (sL U xs.length ad) xs a1/\OS F' (sL V ys.length ag) ys al/\ap f [(4,(sL b0 A.length b9)),(5,(sL a6 E.length a7)),(6,(sL U xs.length ad)),(7,(sL V ys.length ag)),(18,(iI (A.length:Int))),(19,(iI (k:Int)))]/\mm=c.blocks.length-k/\(xs.length=k)/\(ys.length=k)/\(k<=c.blocks.length)/\(∀b,b<k->Lst (xs.getD b default) (LIn c b))/\(∀b,b<k->Lst (ys.getD b default) (kw c b))) _ ⟨([]:List (List Int)),([]:List (List Int)),0,none,0,[],none,0,[],_,fR,c5,(OS.nil:OS _ (sL none 0 0) ([]:List (List Int)) []),(OS.nil:OS _ (sL none 0 0) ([]:List (List Int)) []),⟨rfl,rfl,rfl,rfl,rfl,rfl,trivial⟩,rfl,(by rfl),(by rfl),(by omega),(by intro b hb;omega),(by intro b hb;omega)⟩ ?_;rintro h1 ik ib ⟨xs,ys,k,U,ad,a1,V,ag,al,h2,a9,a4,a3,Z,d1,rfl,e1,e2,e3,e4,e5⟩ g4;refine ah _ d1 (fun _=>?_);clear d1;replace hT:=(hT.mono ds).mono a9;replace a2:=a2.mono a9;replace N:=N.mono a9;refine aA 1 rfl (wT 2 [] 20 20 [] [(20,(.bool (decide ((k:Int)<(A.length:Int)))))] rfl fun _=>zd 4 5 (fun hp=>?_) fun hp=>?_)
 ·refine wT 1 [] 21 21 [8] [(8,(iI (k:Int)))] rfl fun _=>aI rfl (zfm (sL U xs.length ad) (zfm (sL b0 A.length b9) (zfm (iI (k:Int)) (zx (List U64) k (SR.sv a2 a4.log0) ?_))))
  obtain⟨hI,go,f6⟩:=Sv.at (SR.sv a2 a4.log0) (aq (x:=default) (show k<A.length from by omega));obtain⟨hA,hB,rfl,f4⟩:=go;refine zl 0 f6 (bc (W:=[]) (aS rfl rfl rfl) rfl rfl rfl (mb.list_c ex (A.getD k default) (HS.call a4.log0) f4 hT (by(rw[an.wi k (by omega)];have:=wd_le vF.regs;omega))) (kb rfl) ?_);rintro _ hg ⟨b2,cc,iz,ht,h3,bb,ar,rfl,f1,rfl⟩;refine⟨Wr.did ar.log,fun g5 e0=>?_⟩;replace ar:=HS.back a4.log0 rfl ar;replace ar:=HS.lg ar a4 e0;generalize ({hg with log:=g5}:Heap)=hC at ar⊢;have ar:HS _ _ _ [_,a1,al,ht] _:=ar;obtain⟨h4,bk,b6,g0,hV⟩:=OS.frz f1 ar (i:=3) rfl;have b6:HS _ _ _ [_,_,_,[]] _:=b6;replace hT:=(hT.mono bb).mono bk;replace N:=(N.mono bb).mono bk;replace a3:=(a3.mono bb).mono bk;refine bC (id:= .a) (aT (α:=(List Int)) (ps:=[(0,(sL b2 (fO (A.getD k default)).length cc))]) (cells:=[(sL b2 (fO (A.getD k default)).length cc)]) ([fO (A.getD k default)]:List (List Int)) b6.log0 rfl rfl rfl (by kernel_rfl) ⟨[(sL b2 (fO (A.getD k default)).length cc)],[],rfl,⟨b2,cc,rfl,g0⟩,rfl⟩ rfl) rfl rfl (fun _ _ _ _=>eo rfl rfl rfl) (kb rfl) ?_;rintro _ hh hu ⟨ih,it,rfl,f8,av,_⟩ g6 e6;replace av:=HS.lg av b6 e6;generalize ({hh with log:=g6}:Heap)=hD at av⊢;have av:HS _ _ _ [_,_,_,_,hu] _:=av;refine bC (id:= .x (a1.map Prod.fst)) (aZ (α:=(List Int)) (q:=1) a3 av.log0 rfl rfl rfl (OS.sv f8 av.log0 (i:=4) rfl) rfl rfl rfl rfl rfl rfl rfl (by(simp only[a05,a09,a0e];omega))) rfl rfl (by rintro _ _ em ⟨dk,d4,rfl,b5,_,hwr⟩;exact bt rfl rfl (Wr.did hwr)) (kb rfl) ?_;rintro _ hj em ⟨dk,d4,rfl,b5,T,_⟩ g7 e9;replace T:=HS.lg T av e9;generalize ({hj with log:=g7}:Heap)=hE at T⊢;have T:HS _ _ _ [_,em,_,_,_] _:=T;refine zfm (sL V ys.length ag) (zfm (sL a6 E.length a7) (zfm (iI (k:Int)) (zx (List U64) k (SR.sv N T.log0) ?_)));obtain⟨hK,g1,f7⟩:=Sv.at (SR.sv N T.log0) (aq (x:=default) (show k<E.length from by omega));obtain⟨ez,f3,rfl,f5⟩:=g1;refine aJ (v:=(sL ez (E.getD k default).length f3)) (id:= .l (sB (sL a6 E.length a7))) (b8 (i:=0) rfl rfl f7 rfl rfl) rfl rfl (bT rfl) (⟨.inl rfl,⟨.inl rfl,⟨.inl rfl,⟨.inr trivial,⟨.inr (SR.nin N av (i:=1) rfl (show k<E.length from by omega)),⟨.inr trivial,⟨.inr a0c,⟨.inr trivial,⟨.inr trivial,⟨.inr trivial,⟨.inr trivial,⟨.inr trivial,trivial⟩⟩⟩⟩⟩⟩⟩⟩⟩⟩⟩⟩) (bc (W:=[]) (aS rfl rfl rfl) rfl rfl rfl (mb.list_c ex (E.getD k default) (HS.call T.log0) f5 hT (by(rw[an.wo k (by omega)];have:=wd_le vF.regs;omega))) (kb rfl) ?_);rintro _ hk ⟨b3,ch,i1,hw,h5,ci,aw,rfl,f2,rfl⟩;refine⟨Wr.did aw.log,fun g8 fd=>?_⟩;replace aw:=HS.back T.log0 rfl aw;replace aw:=HS.lg aw T fd;generalize ({hk with log:=g8}:Heap)=hF at aw⊢;have aw:HS _ _ _ [_,_,_,_,_,hw] _:=aw;obtain⟨h6,co,b7,g2,hW⟩:=OS.frz f2 aw (i:=5) rfl;have b7:HS _ _ _ [_,_,_,_,_,[]] _:=b7;replace b5:=(b5.mono ci).mono co;replace Z:=(((Z.mono bb).mono bk).mono ci).mono co;refine bC (id:= .a) (aT (α:=(List Int)) (ps:=[(0,(sL b3 (fO (E.getD k default)).length ch))]) (cells:=[(sL b3 (fO (E.getD k default)).length ch)]) ([fO (E.getD k default)]:List (List Int)) b7.log0 rfl rfl rfl (by kernel_rfl) ⟨[(sL b3 (fO (E.getD k default)).length ch)],[],rfl,⟨b3,ch,rfl,g2⟩,rfl⟩ rfl) rfl rfl (fun _ _ _ _=>eo rfl rfl rfl) (kb rfl) ?_;rintro _ hl hz ⟨ii,iv,rfl,f9,a0,_⟩ g9 fi;replace a0:=HS.lg a0 b7 fi;generalize ({hl with log:=g9}:Heap)=hG at a0⊢;have a0:HS _ _ _ [_,_,_,_,_,_,hz] _:=a0;refine bC (id:= .x (al.map Prod.fst)) (aZ (α:=(List Int)) (q:=2) Z a0.log0 rfl rfl rfl (OS.sv f9 a0.log0 (i:=6) rfl) rfl rfl rfl rfl rfl rfl rfl (by(simp only[a05,a09,a0e];omega))) rfl rfl (by rintro _ _ et ⟨dl,ea,rfl,d2,_,hwr⟩;exact bt rfl rfl (Wr.did hwr)) (kb rfl) ?_;rintro _ hm et ⟨dl,ea,rfl,d2,a5,_⟩ ha f0;replace a5:=HS.lg a5 a0 f0;generalize ({hm with log:=ha}:Heap)=hH at a5⊢;have a5:HS _ _ _ [_,_,et,_,_,_,_] _:=a5;refine fa (sL dk (xs++([fO (A.getD k default)]:List (List Int))).length d4) rfl rfl rfl (fa (sL dl (ys++([fO (E.getD k default)]:List (List Int))).length ea) rfl rfl rfl (bf (aA 2 rfl (wU 1 [] 19 19 [38] [(19,(iI ((k:Int)+1)))] (vi (n:=(k:Int)+1)) rfl fun _=>g4 _ _ _ ?_ ⟨xs++([fO (A.getD k default)]:List (List Int)),ys++([fO (E.getD k default)]:List (List Int)),k+1,dk,d4,em,dl,ea,et,_,(fT (fT (fT (fT (a9) bb) bk) ci) co),(HS.sub a5 (a01 _ _)),b5,d2,⟨rfl,rfl,rfl,rfl,rfl,rfl,trivial⟩,rfl,(by simp;omega),(by simp;omega),(by omega),(lst_snoc e1 e4 (lst_of (an.hi k))),(lst_snoc e2 e5 (lst_of (an.ho k (by omega))))⟩))));omega
 refine wT 1 [] 2 3 [39,40] [(2,(sL U xs.length ad)),(3,(sL V ys.length ag))] rfl fun _=>?_
 obtain⟨h7,dt,c6,c0,hX⟩:=OS.frz a3 a4 (i:=1) rfl;have c6:HS _ _ _ [_,_,al] _:=c6;replace Z:=Z.mono dt;obtain⟨h8,dv,c8,g3,hY⟩:=OS.frz Z c6 (i:=2) rfl;have c8:HS _ _ _ [_,_,[]] _:=c8;replace c0:=c0.mono dv;refine aj ⟨.inr rfl,_,rfl,U,ad,xs,V,ag,ys,_,(fT (fT (fT (fT (c9) ds) a9) dt) dv),(HS.forget c8),rfl,c0,g3,(fun _=>⟨by omega,by omega,fun b hb=>e4 b (by omega),fun b hb=>e5 b (by omega)⟩),(fun h=>absurd (hv.symm.trans h) (by decide))⟩
end Go.Proofs.YtknafdcgpaejlaaDoor.md
