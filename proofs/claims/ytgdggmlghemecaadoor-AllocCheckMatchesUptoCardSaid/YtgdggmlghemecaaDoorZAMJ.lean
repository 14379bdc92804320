/-
Live registers: the reference points and calls. No condition but bounds on lengths.
-/
import Derived.Test.YtgdggmlghemecaaDoorZAMI
noncomputable section
namespace Go.Proofs.YtgdggmlghemecaaDoor.mj
open Go.R
set_option maxRecDepth 10000
set_option maxHeartbeats 2000000
set_option linter.unusedVariables false
set_option linter.unusedSimpArgs false
variable (ex:FuncId) {F:Fz} {H:Heap} {R:List Fp}
open m1 m2 m3 m4 m5 m6 ma ml mb mc md mf mg mh mi
theorem reads6{v:VInT}(z:v.i.op=6)(x:Int):x∈aI v↔x∈v.args:=by
 have A:alV v.i.op=true:=by rw[z];rfl
 have E:(aW v.i.op).ra=false:=by rw[z];rfl
 have N:(aW v.i.op).rb=false:=by rw[z];rfl
 unfold aI;rw[if_pos A,uni_mem];unfold i5;rw[E,N,if_neg u_,if_neg u_,if_neg M,if_pos z];simp
theorem ac_lst{c:VFnT}{b i:Nat}{l:List Int}(v:VF c)(A:b<c.blocks.length)(hi:i<(bh c b).ins.length)(h:Lst l (ptS c b (i+1))):Lst (acV ((bh c b).ins.getD i default) l) (acI c b i):=by
 unfold acV;have E:=bx (v.ins b A i hi);split
 ·rename_i z;refine Lst.ext (Lst.addL (l:=aI ((bh c b).ins.getD i default)) (Lst.minus (w:=[((bh c b).ins.getD i default).i.a]) h) fun x N=>(E.1 x N).1) fun r=>?_
  rw[reads6 z,a0f];unfold acI;exact⟨fun h=>⟨z,h⟩,fun h=>h.2⟩
 rename_i z;exact Lst.nil fun r h=>z h.1
def acJ(c:VFnT)(b k r:Nat):Prop:=acK c b r\/∃j,j<k/\acI c b j r
theorem acj_zero{c:VFnT}{b:Nat}{o:List Int}(h:Lst o (acK c b)):Lst o (acJ c b 0):=Lst.ext h fun r=>⟨.inl,fun h=>h.elim id fun⟨j,h,_⟩=>absurd h (a0t _)⟩
theorem acj_step{c:VFnT}{b k:Nat}{o l:List Int}(h:Lst o (acJ c b k))(z:Lst l (acI c b k)):Lst (da o l) (acJ c b (k+1)):=Lst.ext (Lst.union h z) fun r=>by
 unfold acJ;constructor
 ·rintro((h|⟨j,E,A⟩)|h)
  ·exact .inl h
  ·exact .inr ⟨j,by omega,A⟩
  exact .inr ⟨k,a1u _,h⟩
 rintro(h|⟨j,E,A⟩)
 ·exact .inl (.inl h)
 rcases a0j j k with hj|hj
 ·exact .inl (.inr ⟨j,hj,A⟩)
 rw[show j=k by omega]at A;exact .inr A
theorem acj_all{c:VFnT}{b k:Nat}{o:List Int}(T:(bh c b).ins.length=k)(h:Lst o (acJ c b k)):Lst o (acK c (b+1)):=Lst.ext h fun r=>by
 unfold acJ acK;constructor
 ·rintro(⟨z,j,N,A,E⟩|⟨j,N,A⟩)
  ·exact⟨z,j,by omega,A,E⟩
  exact⟨b,j,a1u _,by omega,A⟩
 rintro⟨z,j,N,A,E⟩;rcases a0j z b with hb|hb
 ·exact .inl ⟨z,j,hb,A,E⟩
 have:z=b:=M
 subst this;exact .inr ⟨j,by omega,E⟩
theorem ack_zero{c:VFnT}:Lst [] (acK c 0):=Lst.nil fun r ⟨b,_,A,_⟩=>a0t _ A
theorem ack_all{c:VFnT}{b:Nat}{o:List Int}(z:b=c.blocks.length)(h:Lst o (acK c b)):Lst o (acS c):=by subst z;exact h
theorem aci_lt{c:VFnT}(v:VF c){b i r:Nat}(z:b<c.blocks.length)(hi:i<(bh c b).ins.length)(h:acI c b i r):(r:Int)<c.regs:=by
 rcases h with⟨E,⟨A,_⟩|A⟩
 ·exact eB v z A
 exact((bx (v.ins b z i hi)).1 _ ((reads6 E _).2 A)).2
theorem jk{c:VFnT}(v:VF c){k r:Nat}(z:k<=c.blocks.length)(h:acK c k r):(r:Int)<c.regs:=by obtain⟨b,i,N,A,E⟩:=h;exact aci_lt v M A E
theorem acj_lt{c:VFnT}(v:VF c){b k r:Nat}(z:b<c.blocks.length)(N:k<=(bh c b).ins.length)(h:acJ c b k r):(r:Int)<c.regs:=by
 rcases h with h|⟨j,E,A⟩
 ·exact jk v (a27 z) h
 exact aci_lt v z M A
theorem acV_len{v:VInT}{l:List Int}:(acV v l).length<=l.length+(3+v.args.length):=by
 unfold acV;split
 ·refine a0e eV ?_;have A:(gE l [v.i.a]).length<=l.length:=a17 _ _;have E:=ey (v:=v);omega
 exact a0I _
theorem rlp_c{T:Option Addr}{U:Nat}(c:VFnT)(block:Int)(hs:HS (.of H []) F H [] R)(c0:in64 c.params)(c3:in64 c.regs)(A:SR F (sL T c.blocks.length U) c.blocks)(d2:in64 block)(hT:TB 37 tabC F)(a3: ∀j,(c.blocks.getD j default).ins.length<=1073741824):kKt ex 46 [(aG [(iI c.params),(iI c.regs),(sL T c.blocks.length U)]),(iI block)] H fun v H'=> ∃(al:Option Addr) (kl:Nat) (l:List (List Int)) (F':Fz),Fz.le F F'/\HS (.of H []) F' H' [] R/\v=sL al l.length kl/\SR F' (sL al l.length kl) l/\(bT c=true->0<=block->block<(c.blocks.length:Int)->PtF c block.toNat l)/\((bT c=false\/block<0\/(c.blocks.length:Int)<=block)->l=[]):=by
 refine aC Tryd.func46 V V ?_;refine aj 1 V ?_;refine aa ?_;refine aV (aO hs V V) V V ?_;rintro _ H2 _ ⟨b1,rfl,aw,_⟩;refine wa (sL none 0 0) V V V ?_;refine ae 3 V ?_;refine sj 1 7 20 [] [(20,(.bool (((!(bT c))||(decide (block<0)))||(decide ((c.blocks.length:Int)<=block)))))] (Hr_ 0 0 (Hk_ 1 (jc aw fun _ _ j q=>m3.eQ ex c q M M (A.mono j) (hT.mono j) (by exact fun j=>a0e (a3 j) M)) (mV 10 (fun _=>(jl aw 27 2 0 V V V)) Hn_))) aw V V fun dd H3 F3 a_ Z=>?_
 replace hT:=hT.mono a_;replace A:=A.mono a_;refine az 1 2 (v:=(((!(bT c))||(decide (block<0)))||(decide ((c.blocks.length:Int)<=block)))) V V V V (fun c4=>?_) (fun c4=>?_)
 ·try simp only[BS]at c4
  have hb:=c4;refine wT 1 [] 4 4 [] [(4,(sL none 0 0))] V fun _=>?_
  refine am ⟨.inr V,_,V,none,0,([]:List (List Int)),_,(a_),(HS.forget Z),V,(SR.nil:SR F3 (sL none 0 0) ([]:List (List Int))),(by first|exact fun h h2 h3=>absurd hb (by simp[h];omega)|exact fun _ _ _=>ptf_of (bk.hy _ z) X),(by first|exact fun _=>rfl|exact fun h=>by rw[hv]at h;simp at h;omega)⟩
 try simp only[BS]at c4
 have hb:=c4;have hv:bT c=true:=hb.1.1;have vF:=eU hv;have fd:=vF.nb;have z:block.toNat<c.blocks.length:=M
 have d1:=a3 block.toNat;refine aa ?_;refine bn 1 0 22 22 [] [(22,(aG [(iI c.params),(iI c.regs),(sL T c.blocks.length U)]))] (Hr_ 0 0 Hn_) Z V V fun _=>?_
 refine aH (aq V V V) V V (mi.j0 ex c (HS.call Z) M M A hT X) ?_;rintro _ H7 ⟨c9,dn,x7,b2,b3,y7,F7,ar,E,rfl,c6,av,dl,dk⟩;replace E:=HS.back Z V E;replace hT:=hT.mono ar;replace A:=A.mono ar;refine cj 5 2 24 25 [5,6,21] [(6,(sL b2 y7.length b3))] Hn_ (by kernel_rfl) V fun _=>?_
 refine ae 2 V ?_;have bk:=(by assumption:bT c=true->BkF c _ y7) hv;have e5:=bk.lx;have e6:=bk.ly;have fi:=Lst.len (bk.hy block.toNat z) vF.regs.1 (fun r h=>iO vF h);refine aF V ?_;obtain⟨a4,a5⟩:=Sv.view (SR.sv A E);obtain⟨b5,b6,b7,b8,a2⟩:=BlkT.fx (a5 block.toNat);obtain⟨an,ax⟩:=Sv.view (SR.sv av E);have b4:=fL (ax block.toNat);refine d8 9 26 34 [] [(30,(aG [(sL (cA (a4 block.toNat) 0) (c.blocks.getD block.toNat default).ins.length (cK (a4 block.toNat) 0)),(iI (c.blocks.getD block.toNat default).fin),(iI (c.blocks.getD block.toNat default).reg),(iI (c.blocks.getD block.toNat default).tgt),(iI (c.blocks.getD block.toNat default).els)])),(34,(sL (cA (an block.toNat) 0) (y7.getD block.toNat default).length (cK (an block.toNat) 0)))] (Hr_ 1 0 (Ha_ (Sv.ix (j:=block) (SR.sv A E) M M) (Hl_ 4 (qn 43 0 5 (hc0 (BlkT.vw (a5 block.toNat) M)) V V V V) (Ha_ (Sv.ix (j:=block) (SR.sv av E) M M) (Hl_ 8 (ql 22 0 (hc0 (vL (ax block.toNat) M)) V V) Hn_))))) E V V fun _=>?_
 refine aN (W:=[]) (aq V V V) V V V (mh.rpoints_c ex (c.blocks.getD block.toNat default) (y7.getD block.toNat default) (HS.call E.log0) a2 M M M M b4 hT (by exact⟨_,rpo_out vF z d1 (bk.hy _ z)⟩)) (⟨.inl V,⟨.inl V,⟨.inl V,⟨.inl V,⟨.inl V,⟨.inl V,⟨.inl V,⟨.inl V,⟨.inl V,trivial⟩⟩⟩⟩⟩⟩⟩⟩⟩) ?_;rintro _ bz ⟨ad,ay,a6,ds,c7,a7,N,rfl,a1,ch⟩;refine⟨Wr.did N.log,fun bl a0=>?_⟩;replace N:=HS.back E.log0 V N;replace N:=HS.lg N E a0;generalize ({bz with log:=bl}:Heap)=cc at N⊢;refine fa (sL ad a6.length ay) V V V ?_;refine bB 1 V ?_;obtain⟨c8,a8,bb,a9,c5⟩:=OS.frz a1 N (i:=1) V;refine am ⟨.inr V,_,V,ad,ay,a6,_,(fT (fT (fT (a_) ar) a7) a8),(HS.forget bb),V,a9,(by first|exact fun h h2 h3=>absurd hb (by simp[h];omega)|exact fun _ _ _=>ptf_of (bk.hy _ z) X),(by first|exact fun _=>rfl|exact fun h=>by rw[hv]at h;simp at h;omega)⟩
theorem rac_c{ax:Option Addr}{a0:Nat}(c:VFnT)(hs:HS (.of H []) F H [] R)(f9:in64 c.params)(go:in64 c.regs)(A:SR F (sL ax c.blocks.length a0) c.blocks)(z:TB 37 tabC F)(cv: ∀j,(c.blocks.getD j default).ins.length<=1073741824):kKt ex 24 [(aG [(iI c.params),(iI c.regs),(sL ax c.blocks.length a0)])] H fun v H'=> ∃(ar:Option Addr) (kr:Nat) (r:List Int) (F':Fz),Fz.le F F'/\HS (.of H []) F' H' [] R/\v=sL ar r.length kr/\SR F' (sL ar r.length kr) r/\(bT c=true->Lst r (acS c))/\(bT c=false->r=[]):=by
 refine aC Tryd.func24 V V ?_;refine aj 1 V ?_;refine aa ?_;refine aV (aO hs V V) V V ?_;rintro _ H2 _ ⟨b1,rfl,d1,_⟩;refine wa (sL none 0 0) V V V ?_;refine ae 2 V ?_;refine wT 3 [] 1 0 [3] [(3,(sL none 0 0))] V fun _=>?_
 refine wT 2 [] 1 0 [4] [(4,(iI 0))] V fun _=>?_
 let c6:Fp:=(fP b1 [(iI c.params),(iI c.regs),(sL ax c.blocks.length a0)])
 refine ah (fun(mm:Nat) f H'=> ∃(o:List Int) (b:Nat) (a_:Option Addr) (ad:Nat) (F':Fz),Fz.le F F'/\HS (Base.of H []) F' H' [c6] R/\SR F' (sL a_ o.length ad) o/\aA f [(1,(pT b1 0)),(3,(sL a_ o.length ad)),(4,(iI (b:Int)))]/\mm=c.blocks.length-b/\(bT c=false->o=[])/\(bT c=true->Lst o (acK c b))/\(bT c=true->b<=c.blocks.length)/\(b<=1000)) _ ⟨([]:List Int),0,none,0,_,fR,d1,(SR.nil:SR F (sL none 0 0) ([]:List Int)),(agC V (agC V (agC V agN))),V,(by exact fun _=>rfl),(by exact fun _=>ack_zero),(by exact fun _=>a0I _),(by first|assumption|omega|(simp at *;omega))⟩ ?_;rintro hg f5 H5 ⟨o,b,a_,ad,F5,a4,b3,Z,c5,rfl,hz,ho,hbb,hf⟩ d2;refine ap _ c5 (fun _=>?_);clear c5;replace z:=z.mono a4;replace A:=A.mono a4;refine aj 2 V ?_;refine sj 1 7 15 [] [(15,(.bool ((decide ((b:Int)<(c.blocks.length:Int)))&&bT c)))] (Hr_ 2 0 (mV 6 (fun _=>(jn b3 29 0 3 0 V V V V V)) (Hk1_ 7 (fun g1=>(jc b3 fun _ _ j q=>m3.eQ ex c q (by(try simp only[BS]at g1);(first|(dsimp only;omega)|omega)) (by(try simp only[BS]at g1);(first|(dsimp only;omega)|omega)) (A.mono j) (z.mono j) (by exact fun j=>a0e (cv j) M))) Hn_))) b3 V V fun g9 H6 F6 a1 a6=>?_
 replace z:=z.mono a1;replace A:=A.mono a1;replace Z:=Z.mono a1;refine az 4 5 (v:=((decide ((b:Int)<(c.blocks.length:Int)))&&bT c)) V V V V (fun c7=>?_) (fun c7=>?_)
 ·try simp only[BS]at c7
  have hB:=c7;have hv:bT c=true:=hB.2;have vF:=eU hv;have hS:=vF.nb;have hd:=vF.regs;have al:b<c.blocks.length:=M
  have hQ:=cv b;refine aa ?_;refine bn 2 0 18 19 [] [(18,(aG [(iI c.params),(iI c.regs),(sL ax c.blocks.length a0)])),(19,(iI (b:Int)))] (Hr_ 0 0 Hn_) a6 V V fun _=>?_
  refine aH (aq V V V) V V (rlp_c ex c (b:Int) (HS.call a6) M M A M z X) ?_;rintro _ H9 ⟨a8,b8,l9,F9,a5,b4,rfl,a3,he,ha⟩;replace b4:=HS.back a6 V b4;replace Z:=Z.mono a5;refine wa (sL a8 l9.length b8) V V V ?_;refine ae 2 V ?_;have pf:PtF c b l9:=(by assumption:bT c=true->0<=((b:Nat):Int)->((b:Nat):Int)<(c.blocks.length:Int)->PtF c ((b:Nat):Int).toNat l9) hv M M;have hW:(l9).length=(c.blocks.getD b default).ins.length+1:=pf.len;refine wT 2 [] 1 0 [6] [(6,(iI 0))] V fun _=>?_
  refine ah (fun(mm:Nat) f H'=> ∃(o2:List Int) (k:Nat) (T:Option Addr) (U:Nat) (F':Fz),Fz.le F9 F'/\HS (Base.of H []) F' H' [c6] R/\SR F' (sL T o2.length U) o2/\aA f [(1,(pT b1 0)),(3,(sL T o2.length U)),(4,(iI (b:Int))),(5,(sL a8 l9.length b8)),(6,(iI (k:Int)))]/\mm=(c.blocks.getD b default).ins.length-k/\(k<=(c.blocks.getD b default).ins.length)/\(Lst o2 (acJ c b k))) _ ⟨o,0,a_,ad,_,fR,b4,Z,(agC V (agC V (agC V (agC V (agC V agN))))),V,(by first|assumption|omega|(simp at *;omega)),(by exact acj_zero (ho hv))⟩ ?_;rintro g4 g8 dn ⟨o2,k,T,U,g5,av,E,an,bz,rfl,hk,b2⟩ c9;refine ap _ bz (fun _=>?_);clear bz;replace z:=(z.mono a5).mono av;replace A:=(A.mono a5).mono av;replace a3:=a3.mono av;refine aj 2 V ?_;obtain⟨f6,b5⟩:=Sv.view (SR.sv A E);obtain⟨d3,d4,ea,em,fd⟩:=BlkT.fx (b5 b);refine bF 1 21 29 [] [(29,(.bool (decide ((k:Int)<((c.blocks.getD b default).ins.length:Int)))))] (Hr_ 2 0 (Ha_ (Sv.ix (j:=(b:Int)) (SR.sv A E) M M) (Hl_ 6 (ql 41 0 (BlkT.vw (b5 b) M) V V) Hn_))) E V V fun _=>?_
  refine az 3 5 (v:=(decide ((k:Int)<((c.blocks.getD b default).ins.length:Int)))) V V V V (fun bb=>?_) (fun bb=>?_)
  ·try simp only[BS]at bb
   have ao:k<(c.blocks.getD b default).ins.length:=M
   have hV:=Lst.len b2 hd.1 (fun r h=>acj_lt vF al hk h);have hA:(((l9).getD (k+1) default).length:Int)<=c.regs:=Lst.len (pf.pt (k+1) ao) hd.1 (fun r h=>eB vF al h);have f8:(((l9).getD (((k:Nat):Int)+1).toNat default).length:Int)<=c.regs:=hA;have g0:((c.blocks.getD b default).ins.getD k default).args.length<=6:=(bx (vF.ins b al k ao)).2.2;have hR:=acV_len (v:=((c.blocks.getD b default).ins.getD k default)) (l:=(l9).getD (((k:Nat):Int)+1).toNat default);refine aF V ?_;obtain⟨f7,b6⟩:=Sv.view (SR.sv A E);obtain⟨et,ez,e0,e1,a7⟩:=BlkT.fx (b6 b);obtain⟨bl,b7⟩:=Sv.view (SR.sv a7 E);obtain⟨e2,e3,e4,e5,e6,c4⟩:=VInT.fx (b7 k);refine d8 12 32 43 [] [(32,(sL T o2.length U)),(41,(aG [(iI ((c.blocks.getD b default).ins.getD k default).i.op),(iI ((c.blocks.getD b default).ins.getD k default).i.a),(iI ((c.blocks.getD b default).ins.getD k default).i.b),(iI ((c.blocks.getD b default).ins.getD k default).i.c),(iI ((c.blocks.getD b default).ins.getD k default).i.n),(sL (cA (bl k) 5) ((c.blocks.getD b default).ins.getD k default).args.length (cK (bl k) 5))])),(42,(sL a8 l9.length b8)),(43,(iI (k:Int)))] (Hr_ 2 0 (Ha_ (Sv.ix (j:=(b:Int)) (SR.sv A E) M M) (Hl_ 6 (ql 41 0 (hc0 (BlkT.vw (b6 b) M)) V V) (Ha_ (Sv.ix (j:=(k:Int)) (SR.sv a7 E) M M) (Hl_ 9 (qn 47 0 6 (hc0 (VInT.vw (b7 k) M)) V V V V) Hn_))))) E V V fun _=>?_
   refine aN (W:=[]) (aq V V V) V V V (mh.kK ex l9 (k:Int) (HS.call E.log0) a3 M z M) (⟨.inl V,⟨.inl V,⟨.inr trivial,⟨.inr trivial,⟨.inr trivial,⟨.inr trivial,⟨.inr trivial,⟨.inr trivial,⟨.inr trivial,⟨.inr a0d,⟨.inr trivial,⟨.inr trivial,trivial⟩⟩⟩⟩⟩⟩⟩⟩⟩⟩⟩⟩) ?_;rintro _ _ ⟨f3,g2,hh,rfl,rfl,co,rfl⟩;refine⟨fun b hb=>absurd hb a0d,fun dd cc=>?_⟩;have ay:=HS.lg E.log0 E cc;generalize ({{dn with log:=[]} with log:=dd}:Heap)=f0 at ay⊢;refine aN (W:=[]) (aq V V V) V V V (mh.acall_c ex ((c.blocks.getD b default).ins.getD k default) (l9.getD ((k:Int)+1).toNat default) (HS.call ay.log0) M M M M M c4 co z M M) (⟨.inl V,⟨.inl V,⟨.inl V,⟨.inl V,⟨.inl V,⟨.inl V,⟨.inl V,⟨.inl V,⟨.inl V,⟨.inl V,⟨.inl V,⟨.inl V,⟨.inr trivial,trivial⟩⟩⟩⟩⟩⟩⟩⟩⟩⟩⟩⟩⟩) ?_;rintro _ ds ⟨f4,g3,hj,g6,a2,N,rfl,c0,rfl⟩;refine⟨Wr.did N.log,fun dk ch=>?_⟩;replace N:=HS.back ay.log0 V N;replace N:=HS.lg N ay ch;generalize ({ds with log:=dk}:Heap)=f1 at N⊢;replace z:=z.mono a2;replace an:=an.mono a2;refine aN (W:=[]) (aq V V V) V V V (ma.fp ex o2 (acV ((c.blocks.getD b default).ins.getD k default) (l9.getD ((k:Int)+1).toNat default)) (HS.call N.log0) an c0 z M) (⟨.inl V,⟨.inl V,⟨.inl V,⟨.inl V,⟨.inl V,⟨.inl V,⟨.inl V,⟨.inl V,⟨.inl V,⟨.inl V,⟨.inl V,⟨.inl V,⟨.inl V,⟨.inl V,trivial⟩⟩⟩⟩⟩⟩⟩⟩⟩⟩⟩⟩⟩⟩) ?_;rintro _ dt ⟨a9,b9,hl,g7,c8,ag,rfl,c3,rfl⟩;refine⟨Wr.did ag.log,fun dl ci=>?_⟩;replace ag:=HS.back N.log0 V ag;replace ag:=HS.lg ag N ci;generalize ({dt with log:=dl}:Heap)=f2 at ag⊢;refine fa (sL a9 (da o2 (acV ((c.blocks.getD b default).ins.getD k default) (l9.getD ((k:Int)+1).toNat default))).length b9) V V V ?_;refine bB 2 V ?_;refine wU 1 [] 30 31 [6] [(6,(iI ((k:Int)+1)))] (vi (n:=(k:Int)+1) M) V fun _=>?_
   refine c9 _ _ _ ?_ ⟨da o2 (acV ((c.blocks.getD b default).ins.getD k default) (l9.getD ((k:Int)+1).toNat default)),k+1,a9,b9,_,(fT (fT (av) a2) c8),ag,c3,(agC V (agC V (agC V (agC V (agC V agN))))),V,(by first|assumption|omega|(simp at *;omega)),(by exact acj_step b2 (ac_lst vF al ao (pf.pt (k+1) ao)))⟩;omega
  try simp only[BS]at bb
  refine wU 1 [] 16 17 [4] [(4,(iI ((b:Int)+1)))] (vi (n:=(b:Int)+1) M) V fun _=>?_
  refine d2 _ _ _ ?_ ⟨o2,b+1,T,U,_,(fT (fT (fT (a4) a1) a5) av),E,an,(agC V (agC V (agC V agN))),V,(by exact fun h=>absurd (hv.symm.trans h) e_),(by exact fun _=>acj_all (show(c.blocks.getD b default).ins.length=k by omega) b2),(by exact fun _=>al),(by first|assumption|omega|(simp at *;omega))⟩;omega
 try simp only[BS]at c7
 have hC:bT c=true->c.blocks.length<=b:=fun h=>by(have hc:=c7;simp only[h]at hc;simp at hc;omega)
 refine wT 1 [] 2 2 [47] [(2,(sL a_ o.length ad))] V fun _=>?_
 refine am ⟨.inr V,_,V,a_,ad,o,_,(fT (a4) a1),(HS.forget a6),V,Z,(by exact fun h=>ack_all (by have h2:=hbb h;have h3:=hC h;omega) (ho h)),(by first|assumption)⟩
end Go.Proofs.YtgdggmlghemecaaDoor.mj
