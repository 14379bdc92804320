/-
Live registers: AcrossCalls. No condition but bounds on lengths.
-/
import Derived.Test.YtgdggmlghemecaaDoorZAMF
noncomputable section
namespace Go.Proofs.YtgdggmlghemecaaDoor.mg
open Go.R
set_option maxRecDepth 10000
set_option linter.unusedVariables false
set_option linter.unusedSimpArgs false
variable (ex:FuncId) {F:Fz} {H:Heap} {R:List Fp}
open m1 m2 m3 m4 m5 m6 ma ml mb mc md mf
def acK(c:VFnT)(k r:Nat):Prop:= ∃b i,b<k/\i<(bh c b).ins.length/\acI c b i r
theorem call_a{p g:Int}{v:VInT}(h:fO p g v=true)(z:v.i.op=6):0<=v.i.a/\v.i.a<g/\∀x∈v.args,0<=x/\x<g:=by
 unfold fO at h;simp only[a07]at h;obtain⟨⟨⟨⟨⟨_,E⟩,A⟩,_⟩,_⟩,_⟩:=h;rw[z]at A;have e:(decide (aE 6≠1))=true:=by decide
 rw[e]at A;have A:m2.aY g v.i.a=true:=A;unfold m2.aY at E A;simp only[decide_eq_true_eq,a0y]at E A;exact⟨A.1,A.2,E⟩
theorem rem0{s w:List U64}{n:Nat}{l:List Int}(h: ∀i,aD w i=(aD s i&& !decide (i=n)))(i:Nat):aD w i=((aD s i&& !decide (i=n))||decide ((i:Int)∈l.take 0)):=by rw[h];simp
theorem add_f{f:Nat->Bool}{w w':List U64}{l:List Int}{k:Nat}(z:k<l.length)(h: ∀i,aD w i=(f i||decide ((i:Int)∈l.take k)))(N:0<=l.getD k 0)(E: ∀i,aD w' i=(aD w i||decide (i=(l.getD k 0).toNat)))(i:Nat):aD w' i=(f i||decide ((i:Int)∈l.take (k+1))):=by
 rw[E,h,bK z (d:=0),Bool.or_assoc];congr 1;rw[a0o];simp only[a0z,decide_eq_true_eq,a08,a0f];constructor
 ·rintro(A|A)
  ·exact .inl A
  exact .inr M
 rintro(A|A)
 ·exact .inl A
 exact .inr M
theorem ac_yes{c:VFnT}{b i q:Nat}{s w a z:List U64}(T:((bh c b).ins.getD i default).i.op=6)(N:0<=((bh c b).ins.getD i default).i.a)(hs: ∀r,aD s r=true↔ptS c b (i+1) r)(Z:((bh c b).ins.getD i default).args.length<=q)
  (hw: ∀r,aD w r=((aD s r&& !decide (r=((bh c b).ins.getD i default).i.a.toNat))||decide ((r:Int)∈((bh c b).ins.getD i default).args.take q))) (U: ∀r,aD z r=(aD a r||aD w r)) (r:Nat):aD z r=true↔(aD a r=true\/acI c b i r):=by
 rw[U,hw,a0h Z]
 simp only[a0z,a07,a0B,decide_eq_false_iff_not,decide_eq_true_eq,hs]
 unfold acI
 constructor
 ·rintro(h|⟨A,E⟩|h)
  ·exact .inl h
  ·exact .inr ⟨T,.inl ⟨A,by omega⟩⟩
  exact .inr ⟨T,.inr h⟩
 rintro(h|⟨_,⟨A,E⟩|h⟩)
 ·exact .inl h
 ·exact .inr (.inl ⟨A,by omega⟩)
 exact .inr (.inr h)
theorem ac_no{c:VFnT}{b i:Nat}{a:List U64}(z:((bh c b).ins.getD i default).i.op≠6)(r:Nat):aD a r=true↔(aD a r=true\/acI c b i r):=⟨.inl,fun h=>h.elim id fun h=>absurd h.1 z⟩
theorem ac_step{c:VFnT}{b:Nat}{i:Int}{a z:List U64}(hi:0<=i)(U:i.toNat<(bh c b).ins.length)(h: ∀r,aD a r=true↔(acK c b r\/∃j,(i+1).toNat<=j/\j<(bh c b).ins.length/\acI c b j r))(T: ∀r,aD z r=true↔(aD a r=true\/acI c b i.toNat r))(r:Nat):
  aD z r=true↔(acK c b r\/∃j,(i-1+1).toNat<=j/\j<(bh c b).ins.length/\acI c b j r):=by
 rw[T,h]
 constructor
 ·rintro((A|⟨j,A,N,E⟩)|A)
  ·exact .inl A
  ·exact .inr ⟨j,by omega,N,E⟩
  exact .inr ⟨i.toNat,by omega,U,A⟩
 rintro(A|⟨j,A,N,E⟩)
 ·exact .inl (.inl A)
 rcases a0j j (i+1).toNat with hj|hj
 ·have:j=i.toNat:=M
  subst this;exact .inr E
 exact .inl (.inr ⟨j,hj,N,E⟩)
theorem ac_first{c:VFnT}{b n:Nat}{a:List U64}(z:(bh c b).ins.length<=n)(h: ∀r,aD a r=true↔acK c b r)(r:Nat):aD a r=true↔(acK c b r\/∃j,n<=j/\j<(bh c b).ins.length/\acI c b j r):=by rw[h];exact⟨.inl,fun h=>h.elim id fun⟨j,E,A,_⟩=>absurd A M⟩
theorem ac_next{c:VFnT}{b:Nat}{i:Int}{a:List U64}(hi:i<0)(h: ∀r,aD a r=true↔(acK c b r\/∃j,(i+1).toNat<=j/\j<(bh c b).ins.length/\acI c b j r))(r:Nat):aD a r=true↔acK c (b+1) r:=by
 rw[h];constructor
 ·rintro(⟨z,j,N,A,E⟩|⟨j,_,A,E⟩)
  ·exact⟨z,j,by omega,A,E⟩
  exact⟨b,j,by omega,A,E⟩
 rintro⟨z,j,N,A,E⟩;rcases a0j z b with hb|hb
 ·exact .inl ⟨z,j,hb,A,E⟩
 have:z=b:=M
 subst this;exact .inr ⟨j,by omega,A,E⟩
theorem ac_zero{c:VFnT}{a:List U64}(h: ∀i,aD a i=false)(r:Nat):aD a r=true↔acK c 0 r:=by rw[h];exact⟨fun h=>(by cases h),fun⟨b,_,A,_⟩=>absurd A (a0t _)⟩
theorem ac_all{c:VFnT}{a:List U64}{k:Nat}(z:c.blocks.length=k)(h: ∀r,aD a r=true↔acK c k r):Lst (gN a) (acS c):=lst_of fun r=>by rw[h];subst z;exact Iff.rfl
set_option maxHeartbeats 2000000 in
theorem across_c{av:Option Addr}{ax:Nat}(c:VFnT)(hs:HS (.of H []) F H [] R)(mk:in64 c.params)(mx:in64 c.regs)(a1:SR F (sL av c.blocks.length ax) c.blocks)(hT:TB 37 tabC F)(hy: ∀j,(c.blocks.getD j default).ins.length<=1073741824):kKt ex 29 [(aG [(iI c.params),(iI c.regs),(sL av c.blocks.length ax)])] H fun v H'=> ∃(ar:Option Addr) (kr:Nat) (r:List Int) (p:Fp) (F':Fz),Fz.le F F'/\HS (.of H []) F' H' [p] R/\v=sL ar r.length kr/\OS F' (sL ar r.length kr) r p/\(bT c=true->Lst r (acS c))/\(bT c=false->r=[]):=by
 refine aC Tryd.func29 V V ?_;refine aj 1 V ?_;refine aa ?_;refine aV (aO hs V V) V V ?_;rintro _ H2 _ ⟨b1,rfl,hh,_⟩;refine wa (sL none 0 0) V V V ?_;refine ae 3 V ?_;refine aa ?_;let hR:Value:=(aG [(iI c.params),(iI c.regs),(sL av c.blocks.length ax)])
 refine bn 1 0 14 14 [] [(14,hR)] (Hr_ 0 0 Hn_) hh V V fun _=>?_
 refine aH (aq V V V) V V (m3.iE ex c (HS.call hh) M M a1 hT (by exact fun j=>a0e (hy j) M)) ?_;rintro _ H4 ⟨r4,F4,f5,c0,rfl,rfl⟩;replace c0:=HS.back hh V c0;replace hT:=hT.mono f5;replace a1:=a1.mono f5;refine cj 1 2 16 16 [] [(16,(.bool (!(bT c))))] Hn_ (by kernel_rfl) V fun _=>?_
 refine ae 1 V ?_;refine az 1 2 (v:=(!(bT c))) V V V V (fun c6=>?_) (fun c6=>?_)
 ·try simp only[BS]at c6
  have hv:=c6;refine wT 1 [] 2 2 [] [(2,(sL none 0 0))] V fun _=>?_
  refine am ⟨.inr V,_,V,none,0,([]:List Int),[],_,(f5),(HS.cons (HS.forget c0)),V,(OS.nil:OS _ _ _ []),(by first|exact fun h=>absurd (h.symm.trans hv) e_|exact fun _=>ac_all M f9),(by first|exact fun _=>rfl|exact fun h=>absurd (hv.symm.trans h) e_)⟩
 try simp only[BS]at c6
 have hv:=c6;have vF:=eU hv;have pj:=vF.nb;have pk:=vF.regs;have pl:=wd_le vF.regs;refine aa ?_;refine bn 1 0 18 18 [] [(18,hR)] (Hr_ 0 0 Hn_) c0 V V fun _=>?_
 refine aH (aq V V V) V V (mc.kJ ex c (HS.call c0) M M a1 hT (by first|assumption|exact fun j=>a0e (hy j) M) (by first|assumption|exact fun j=>a0e (hy j) M)) ?_;rintro _ H9 ⟨k4,mZ,n3,b2,cc,al,F9,g8,d3,rfl,k0,bz,h9⟩;replace d3:=HS.back c0 V d3;replace hT:=hT.mono g8;refine cj 5 2 20 21 [3,4,17] [(4,(sL b2 al.length cc))] Hn_ (by kernel_rfl) V fun _=>?_
 refine ae 2 V ?_;have an:=(by assumption:AnF c _ _)
 have ph:=an.li;have pi:=an.lo;refine aa ?_;refine bn 2 0 22 23 [] [(23,(iI c.regs))] (Hr_ 1 0 Hn_) d3 V V fun _=>?_
 refine aH (aq V V V) V V (mb.empty_c ex c.regs (HS.call d3) M hT M) ?_;rintro _ nA ⟨go,hu,n9,jw,i3,c8,ds,rfl,hH,rfl⟩;replace ds:=HS.back d3 V ds;refine wa (sL go (List.replicate (Int.tdiv (c.regs+63) 64).toNat (⟨0⟩:U64)).length hu) V V V ?_;refine ae 3 V ?_;refine bF 2 25 28 [] [(26,(sL av c.blocks.length ax)),(27,(iI (c.blocks.length:Int))),(28,(iI 0))] (Hr_ 1 0 Hn_) ds V V fun _=>?_
 let f8:Fp:=(fP b1 [(iI c.params),(iI c.regs),(sL av c.blocks.length ax)])
 refine ah (fun(mm:Nat) f H'=> ∃(aw:List U64) (k:Nat) (a2:Option Addr) (a3:Nat) (a9:Fp) (F':Fz),Fz.le i3 F'/\HS (Base.of H []) F' H' [f8,a9] R/\OS F' (sL a2 aw.length a3) aw a9/\aA f [(4,(sL b2 al.length cc)),(5,(sL a2 aw.length a3)),(26,(sL av c.blocks.length ax)),(27,(iI (c.blocks.length:Int))),(28,(iI (k:Int)))]/\mm=c.blocks.length-k/\(aw.length=wds c)/\(∀r,aD aw r=true↔acK c k r)/\(k<=c.blocks.length)) _ ⟨List.replicate (Int.tdiv (c.regs+63) 64).toNat (⟨0⟩:U64),0,go,hu,jw,_,fR,ds,hH,(agC V (agC V (agC V (agC V (agC V agN))))),V,(by first|omega|(rw[a0H];omega)|simp[wds]),(by exact ac_zero (fun i=>bit_rep _ _)),(by first|assumption|omega|(simp at *;omega))⟩ ?_;rintro ng nX nB ⟨aw,k,a2,a3,a9,hJ,b4,b6,a6,ha,rfl,nV,f9,hk⟩ h8;refine ap _ ha (fun _=>?_);clear ha;replace hT:=(hT.mono c8).mono b4;replace a1:=((a1.mono g8).mono c8).mono b4;replace bz:=(bz.mono c8).mono b4;refine aj 1 V ?_;refine wT 2 [] 29 29 [] [(29,(.bool (decide ((k:Int)<(c.blocks.length:Int)))))] V fun _=>?_
 refine az 4 5 (v:=(decide ((k:Int)<(c.blocks.length:Int)))) V V V V (fun g2=>?_) (fun g2=>?_)
 ·try simp only[BS]at g2
  have ld:k<c.blocks.length:=M
  have oA:((c.blocks.getD k default).fin=2\/(c.blocks.getD k default).fin=3)->0<=(c.blocks.getD k default).reg/\(c.blocks.getD k default).reg<c.regs:=vF.fin k ld;have pg:=hy k;have o2:=an.wo k ld;have mY:(al.getD k []).length=wds c:=o2;refine aa ?_;obtain⟨c7,hm⟩:=Sv.view (SR.sv a1 b6);obtain⟨ki,kk,kl,kn,bk⟩:=BlkT.fx (hm k);let hS:Value:=(aG [(sL (cA (c7 k) 0) (c.blocks.getD k default).ins.length (cK (c7 k) 0)),(iI (c.blocks.getD k default).fin),(iI (c.blocks.getD k default).reg),(iI (c.blocks.getD k default).tgt),(iI (c.blocks.getD k default).els)])
  refine cj 3 0 30 32 [] [(30,(iI (k:Int))),(32,hS)] (Ha_ (Sv.ix (j:=(k:Int)) (SR.sv a1 b6) M M) (Hl_ 2 (qn 43 0 5 (BlkT.vw (hm k) M) V V V V) Hn_)) (by kernel_rfl) V fun _=>?_
  refine zn b6 V fun f4 nC h5=>?_
  refine sgo 2 4 1 0 [6] [(6,(iI (k:Int)))] (Hr_ 5 2 Hn_) h5 V V fun k6 nD h6=>?_
  refine ae 2 V ?_;refine aa ?_;refine zlo ([]:List U64) h6 V RL.nl V fun nT n5 n7 nE h2 dt=>?_
  obtain⟨g6,hn⟩:=Sv.view (SR.sv bz dt);have kg:=fL (hn k);refine cj 4 1 34 37 [] [(37,(sL (cA (g6 k) 0) (al.getD k default).length (cK (g6 k) 0)))] (Ha_ (Sv.ix (j:=(k:Int)) (SR.sv bz dt) M M) (Hl_ 4 (ql 102 0 (vL (hn k) M) V V) Hn_)) (by kernel_rfl) V fun _=>?_
  refine zao 3 h2 dt (SR.sv kg dt) V V V k_ fun ci c3 kc nF e2 e6=>?_
  have e2:OS hJ (sL ci (al.getD k default).length c3) (al.getD k default) kc:=e2;refine wa (sL ci (al.getD k default).length c3) V V V ?_;refine ae 2 V ?_;refine aa ?_;refine bn 2 0 39 40 [] [(39,(sL ci (al.getD k default).length c3)),(40,hS)] (Hr_ 1 2 Hn_) e6 V V fun _=>?_
  refine aH (aq V V V) V V (mb.addT_c ex (al.getD k default) (c.blocks.getD k default) (HS.callOwn e6 (i:=3) V) e2 bk M M M M hT (by first|omega|exact fun hf=>by have:=oA hf;omega) (by first|omega|exact fun hf=>by have:=oA hf;omega)) ?_;rintro _ nG ⟨hA,ik,ja,c9,dv,rfl,ea,k8,lr⟩;replace dv:=e6.bO dv;replace a6:=a6.mono c9;have m0:=OS.len' ea;refine ae 2 V ?_;refine bF 2 42 45 [9] [(9,(iI (((c.blocks.getD k default).ins.length:Int)-1)))] (Hr_ 1 2 (Ha_ (vi (n:=((c.blocks.getD k default).ins.length:Int)-1) M) Hn_)) dv V V fun _=>?_
  let hF:Fp:=(fP f4 [(sL (cA (c7 k) 0) (c.blocks.getD k default).ins.length (cK (c7 k) 0)),(iI (c.blocks.getD k default).fin),(iI (c.blocks.getD k default).reg),(iI (c.blocks.getD k default).tgt),(iI (c.blocks.getD k default).els)])
  refine ah (fun(mm:Nat) f H'=> ∃(ad:List U64) (sw:List U64) (z:Int) (A:Option Addr) (N:Nat) (ag:Fp) (E:Option Addr) (T:Nat) (a4:Fp) (F':Fz),Fz.le ja F'/\HS (Base.of H []) F' H' [f8,ag,hF,a4] R/\OS F' (sL A ad.length N) ad ag/\OS F' (sL E sw.length T) sw a4/\aA f [(4,(sL b2 al.length cc)),(5,(sL A ad.length N)),(7,(pT f4 0)),(8,(sL E sw.length T)),(9,(iI z)),(26,(sL av c.blocks.length ax)),(27,(iI (c.blocks.length:Int))),(28,(iI (k:Int)))]/\mm=(z+1).toNat/\(ad.length=wds c)/\(∀r,aD ad r=true↔(acK c k r\/∃j,(z+1).toNat<=j/\j<(c.blocks.getD k default).ins.length/\acI c k j r))/\(sw.length=wds c)/\(-1<=z/\z<((c.blocks.getD k default).ins.length:Int))/\(∀r,aD sw r=true↔ptS c k (z+1).toNat r)) _ ⟨aw,hA,((c.blocks.getD k default).ins.length:Int)-1,a2,a3,a9,ci,c3,ik,_,fR,dv,a6,(OS.norm ea),(agC V (agC V (agC V (agC (show Value.slice ci (al.getD k default).length c3=Value.slice ci hA.length c3 by rw[OS.len' ea]) (agC V (agC V (agC V (agC V agN)))))))),V,M,(by exact ac_first (show(c.blocks.getD k default).ins.length<=_ by first|omega|(dsimp only;omega)) f9),M,(by first|assumption|omega|(simp at *;omega)),(by exact l7 (show(c.blocks.getD k default).ins.length<=_ by first|omega|(dsimp only;omega)) (an.ho _ ld) X)⟩ ?_;rintro nh nY nH ⟨ad,sw,z,A,N,ag,E,T,a4,hK,dd,b7,Z,a7,hb,rfl,nW,hM,e1,e3,e4⟩ ib;refine ap _ hb (fun _=>?_);clear hb;replace hT:=(hT.mono c9).mono dd;replace bk:=(bk.mono c9).mono dd;refine aj 2 V ?_;refine wT 1 [] 46 47 [] [(47,(.bool (decide ((0:Int)<=z))))] V fun _=>?_
  refine az 4 5 (v:=(decide ((0:Int)<=z))) V V V V (fun g3=>?_) (fun g3=>?_)
  ·try simp only[BS]at g3
   have ol:z.toNat<(c.blocks.getD k default).ins.length:=M
   have oB:=vF.ins k ld z.toNat ol;have ck:(∀x∈aI ((c.blocks.getD k default).ins.getD z.toNat default),0<=x/\x<c.regs)/\(∀x∈ab ((c.blocks.getD k default).ins.getD z.toNat default),0<=x/\x<c.regs)/\((c.blocks.getD k default).ins.getD z.toNat default).args.length<=6:=bx oB;have mX:=ck.2.2;refine aa ?_;obtain⟨a0,hp⟩:=Sv.view (SR.sv bk b7);obtain⟨ko,kt,kx,ky,kz,ay⟩:=VInT.fx (hp z.toNat);let hV:Value:=(aG [(iI ((c.blocks.getD k default).ins.getD z.toNat default).i.op),(iI ((c.blocks.getD k default).ins.getD z.toNat default).i.a),(iI ((c.blocks.getD k default).ins.getD z.toNat default).i.b),(iI ((c.blocks.getD k default).ins.getD z.toNat default).i.c),(iI ((c.blocks.getD k default).ins.getD z.toNat default).i.n),(sL (cA (a0 z.toNat) 5) ((c.blocks.getD k default).ins.getD z.toNat default).args.length (cK (a0 z.toNat) 5))])
   refine bn 5 0 50 54 [] [(54,hV)] (Hr_ 1 2 (Ha_ (Sv.ix (j:=z) (SR.sv bk b7) M M) (Hl_ 4 (qn 47 0 6 (VInT.vw (hp z.toNat) M) V V V V) Hn_))) b7 V V fun _=>?_
   refine zn b7 V fun g1 nI h7=>?_
   refine sgo 1 6 1 0 [] [] (Hr_ 6 4 Hn_) h7 V V fun k7 nJ fd=>?_
   refine ae 3 V ?_;refine bF 1 55 58 [] [(58,(.bool (((c.blocks.getD k default).ins.getD z.toNat default).i.op==6)))] (Hr_ 2 4 Hn_) fd V V fun _=>?_
   let hW:Fp:=(fP g1 [(iI ((c.blocks.getD k default).ins.getD z.toNat default).i.op),(iI ((c.blocks.getD k default).ins.getD z.toNat default).i.a),(iI ((c.blocks.getD k default).ins.getD z.toNat default).i.b),(iI ((c.blocks.getD k default).ins.getD z.toNat default).i.c),(iI ((c.blocks.getD k default).ins.getD z.toNat default).i.n),(sL (cA (a0 z.toNat) 5) ((c.blocks.getD k default).ins.getD z.toNat default).args.length (cK (a0 z.toNat) 5))])
   refine bH (fun f H'=> ∃(b3:List U64) (a5:Option Addr) (a8:Nat) (bb:Fp) (F':Fz),Fz.le hK F'/\HS (Base.of H []) F' H' [f8,bb,hF,a4,hW] R/\OS F' (sL a5 b3.length a8) b3 bb/\aA f [(4,(sL b2 al.length cc)),(5,(sL a5 b3.length a8)),(7,(pT f4 0)),(8,(sL E sw.length T)),(9,(iI z)),(10,(pT g1 0)),(26,(sL av c.blocks.length ax)),(27,(iI (c.blocks.length:Int))),(28,(iI (k:Int)))]/\(b3.length=wds c)/\(∀r,aD b3 r=true↔(aD ad r=true\/acI c k z.toNat r))) (fun ht=>?_) ?_
   ·refine az 1 0 (v:=(((c.blocks.getD k default).ins.getD z.toNat default).i.op==6)) V V V V (fun d2=>?_) (fun d2=>?_)
    ·try simp only[BS]at d2
     have gs:=d2;have oj:0<=((c.blocks.getD k default).ins.getD z.toNat default).i.a/\((c.blocks.getD k default).ins.getD z.toNat default).i.a<c.regs/\∀x∈((c.blocks.getD k default).ins.getD z.toNat default).args,0<=x/\x<c.regs:=call_a oB gs;have g9:=oj.1;have mI:=oj.2.1;refine aa ?_;refine zlo ([]:List U64) fd V RL.nl V fun nU n6 n8 nL h3 hj=>?_
     refine wm (sL E sw.length T) V V V ?_;refine zao 5 h3 hj (OS.sv a7 hj (i:=3) V) V V V k_ fun co c4 kd nM e5 f0=>?_
     have e5:OS hK (sL co sw.length c4) sw kd:=e5;refine wa (sL co sw.length c4) V V V ?_;refine ae 2 V ?_;refine aa ?_;refine bn 4 0 62 65 [] [(62,(sL co sw.length c4)),(65,(iI ((c.blocks.getD k default).ins.getD z.toNat default).i.a))] (Hr_ 3 4 Hn_) f0 V V fun _=>?_
     refine aH (aq V V V) V V (mb.rem_c ex sw ((c.blocks.getD k default).ins.getD z.toNat default).i.a (HS.callOwn f0 (i:=5) V) e5 M hT M M) ?_;rintro _ nN ⟨hB,il,jb,dl,d1,rfl,em,k9,l0⟩;replace d1:=f0.bO d1;have m7:=OS.len' em;refine ae 3 V ?_;refine bF 2 67 70 [] [(68,(sL (cA (a0 z.toNat) 5) ((c.blocks.getD k default).ins.getD z.toNat default).args.length (cK (a0 z.toNat) 5))),(69,(iI (((c.blocks.getD k default).ins.getD z.toNat default).args.length:Int))),(70,(iI 0))] (Hr_ 1 4 Hn_) d1 V V fun _=>?_
     refine ah (fun(mm:Nat) f H'=> ∃(tw:List U64) (q:Nat) (U:Option Addr) (a_:Nat) (bl:Fp) (F':Fz),Fz.le jb F'/\HS (Base.of H []) F' H' [f8,ag,hF,a4,hW,bl] R/\OS F' (sL U tw.length a_) tw bl/\aA f [(4,(sL b2 al.length cc)),(5,(sL A ad.length N)),(7,(pT f4 0)),(8,(sL E sw.length T)),(9,(iI z)),(10,(pT g1 0)),(11,(sL U tw.length a_)),(26,(sL av c.blocks.length ax)),(27,(iI (c.blocks.length:Int))),(28,(iI (k:Int))),(68,(sL (cA (a0 z.toNat) 5) ((c.blocks.getD k default).ins.getD z.toNat default).args.length (cK (a0 z.toNat) 5))),(69,(iI (((c.blocks.getD k default).ins.getD z.toNat default).args.length:Int))),(70,(iI (q:Int)))]/\mm=((c.blocks.getD k default).ins.getD z.toNat default).args.length-q/\(tw.length=wds c)/\(∀i,aD tw i=((aD sw i&& !decide (i=((c.blocks.getD k default).ins.getD z.toNat default).i.a.toNat))||decide ((i:Int)∈((c.blocks.getD k default).ins.getD z.toNat default).args.take q)))/\(q<=((c.blocks.getD k default).ins.getD z.toNat default).args.length)) _ ⟨hB,0,co,c4,il,_,fR,d1,(OS.norm em),(agC V (agC V (agC V (agC V (agC V (agC V (agC (show Value.slice co sw.length c4=Value.slice co hB.length c4 by rw[OS.len' em]) (agC V (agC V (agC V (agC V (agC V (agC V agN))))))))))))),V,M,(by exact rem0 X),(by first|assumption|omega|(simp at *;omega))⟩ ?_;rintro nj n1 nO ⟨tw,q,U,a_,bl,nm,b5,b8,c5,hg,rfl,oc,hz,hq⟩ ih;refine ap _ hg (fun _=>?_);clear hg;replace hT:=(hT.mono dl).mono b5;replace Z:=(Z.mono dl).mono b5;replace ay:=(ay.mono dl).mono b5;refine aj 1 V ?_;refine wT 2 [] 71 71 [] [(71,(.bool (decide ((q:Int)<(((c.blocks.getD k default).ins.getD z.toNat default).args.length:Int)))))] V fun _=>?_
     refine az 4 4 (v:=(decide ((q:Int)<(((c.blocks.getD k default).ins.getD z.toNat default).args.length:Int)))) V V V V (fun g4=>?_) (fun g4=>?_)
     ·try simp only[BS]at g4
      have oU:=dm oj.2.2 (k:=q) M;obtain⟨k5,hr⟩:=Sv.view (SR.sv ay b8);have n2:=fI (hr q);refine wrp 1 72 73 [13] [(13,(iI (((c.blocks.getD k default).ins.getD z.toNat default).args.getD q 0)))] (Ha_ (Sv.ix (j:=(q:Int)) (SR.sv ay b8) M M) (Hl_ 1 (ql 3 0 (vI (hr q) M) V V) Hn_)) (by kernel_rfl) V fun _=>?_
      refine aa ?_;refine wTo 2 0 [] 74 75 [] [(74,(sL U tw.length a_)),(75,(iI (((c.blocks.getD k default).ins.getD z.toNat default).args.getD q 0)))] V fun _=>?_
      refine aH (aq V V V) V V (mb.add_c ex tw (((c.blocks.getD k default).ins.getD z.toNat default).args.getD q 0) (HS.callOwn b8 (i:=5) V) c5 M hT M M) ?_;rintro _ nP ⟨hC,it,nn,hY,f1,rfl,et,la,l1⟩;replace f1:=b8.bO f1;have m8:=OS.len' et;refine ae 2 V ?_;refine wU 1 [] 70 70 [77] [(70,(iI ((q:Int)+1)))] (vi (n:=(q:Int)+1) M) V fun _=>?_
      refine ih _ _ _ ?_ ⟨hC,q+1,U,a_,it,_,(fT (b5) hY),f1,(OS.norm et),(agC V (agC V (agC V (agC V (agC V (agC V (agC (show Value.slice U tw.length a_=Value.slice U hC.length a_ by rw[OS.len' et]) (agC V (agC V (agC V (agC V (agC V (agC V agN))))))))))))),V,M,(by exact add_f M hz oU.1 X),(by first|assumption|omega|(simp at *;omega))⟩;omega
     try simp only[BS]at g4
     refine aa ?_;refine wTo 2 0 [] 78 79 [] [(78,(sL A ad.length N)),(79,(sL U tw.length a_))] V fun _=>?_
     obtain⟨nq,d4,hl,h4,mW⟩:=OS.frz c5 b8 (i:=5) V;replace hT:=hT.mono d4;replace Z:=Z.mono d4;refine aH (aq V V V) V V (mb.fp ex ad tw (HS.callOwn hl (i:=1) V) Z h4 hT M M) ?_;rintro _ nQ ⟨oa,hD,iv,np,h0,f2,rfl,ez,lf,l2,l4,l9⟩;replace f2:=hl.bO f2;have m9:=OS.len' ez;refine ae 0 V ?_;exact ht _ _ ⟨hD,A,N,iv,_,(fT (fT (fT (dl) b5) d4) h0),(HS.sub f2 (a02 _ _)),(OS.norm ez),(agC V (agC (show Value.slice A ad.length N=Value.slice A hD.length N by rw[OS.len' ez]) (agC V (agC V (agC V (agC V (agC V (agC V (agC V agN))))))))),(by first|omega|assumption),(by first|exact ac_yes (c:=c) (b:=k) (i:=z.toNat) (q:=q) gs g9 (by rw[show z.toNat+1=(z+1).toNat by omega];exact e4) (show((c.blocks.getD k default).ins.getD z.toNat default).args.length<=q by omega) hz X|exact ac_no (c:=c) (b:=k) (i:=z.toNat) gs)⟩
    try simp only[BS]at d2
    have gs:=d2;exact ht _ _ ⟨ad,A,N,ag,_,fR,fd,Z,(agC V (agC V (agC V (agC V (agC V (agC V (agC V (agC V (agC V agN))))))))),(by first|omega|assumption),(by first|exact ac_yes (c:=c) (b:=k) (i:=z.toNat) (q:=q) gs g9 (by rw[show z.toNat+1=(z+1).toNat by omega];exact e4) (show((c.blocks.getD k default).ins.getD z.toNat default).args.length<=q by omega) hz X|exact ac_no (c:=c) (b:=k) (i:=z.toNat) gs)⟩
   skip;rintro nZ nK ⟨b3,a5,a8,bb,nk,dk,fi,ch,he,n4,jq⟩;refine ap _ he (fun _=>?_);clear he;replace hT:=hT.mono dk;replace a7:=a7.mono dk;replace ay:=ay.mono dk;refine aj 1 V ?_;refine aa ?_;refine bn 2 0 81 82 [] [(81,(sL E sw.length T)),(82,hV)] (Hr_ 1 4 Hn_) fi V V fun _=>?_
   refine aH (aq V V V) V V (mb.iG ex sw ((c.blocks.getD k default).ins.getD z.toNat default) (HS.callOwn fi (i:=3) V) a7 M M M M M ay hT (by first|omega|exact fun x hx=>by have:=ck.1 x hx;omega|exact fun x hx=>by have:=ck.2.1 x hx;omega) (by first|omega|exact fun x hx=>by have:=ck.1 x hx;omega|exact fun x hx=>by have:=ck.2.1 x hx;omega) (by first|omega|exact fun x hx=>by have:=ck.1 x hx;omega|exact fun x hx=>by have:=ck.2.1 x hx;omega) (by first|omega|exact fun x hx=>by have:=ck.1 x hx;omega|exact fun x hx=>by have:=ck.2.1 x hx;omega)) ?_;rintro _ nR ⟨hE,i2,ny,g7,f3,rfl,e0,ll,l3⟩;replace f3:=fi.bO f3;replace ch:=ch.mono g7;have ne:=OS.len' e0;refine ae 2 V ?_;refine wU 1 [] 48 49 [9] [(9,(iI (z-1)))] (vi (n:=z-1) M) V fun _=>?_
   refine ib _ _ _ ?_ ⟨b3,hE,z-1,a5,a8,bb,E,T,i2,_,(fT (fT (dd) dk) g7),(HS.sub f3 (a02 _ _)),ch,(OS.norm e0),(agC V (agC V (agC V (agC (show Value.slice E sw.length T=Value.slice E hE.length T by rw[OS.len' e0]) (agC V (agC V (agC V (agC V agN)))))))),V,M,(by exact ac_step M ol hM jq),M,(by first|assumption|omega|(simp at *;omega)),(by rw[show(z-1+1).toNat=z.toNat by omega];exact lW ol (by rw[show z.toNat+1=(z+1).toNat by omega];exact e4) X)⟩;omega
  try simp only[BS]at g3
  refine wU 1 [] 28 28 [84] [(28,(iI ((k:Int)+1)))] (vi (n:=(k:Int)+1) M) V fun _=>?_
  refine h8 _ _ _ ?_ ⟨ad,k+1,A,N,ag,_,(fT (fT (b4) c9) dd),(HS.sub b7 (a02 _ _)),Z,(agC V (agC V (agC V (agC V (agC V agN))))),V,M,(by exact ac_next M hM),(by first|assumption|omega|(simp at *;omega))⟩;omega
 try simp only[BS]at g2
 refine aa ?_;refine wm (sL a2 aw.length a3) V V V ?_;obtain⟨k3,f6,f7,hI,hG⟩:=OS.frz a6 b6 (i:=1) V;refine aH (aq V V V) V V (mb.list_c ex aw (HS.call f7) hI (hT.mono f6) M) ?_;rintro _ nS ⟨g0,hw,ob,hQ,nz,h1,b9,rfl,dn,rfl⟩;replace b9:=HS.back f7 V b9;replace b9:=HS.thawX (b_:=[hQ]) b6 (i:=1) V f6 hG h1 b9;replace dn:=OS.ind (F':=hJ) dn;refine wa (sL g0 (gN aw).length hw) V V V ?_;refine ae 1 V ?_;refine am ⟨.inr V,_,V,g0,hw,gN aw,hQ,_,(fT (fT (fT (f5) g8) c8) b4),(HS.only b9 (i:=2) V),V,dn,(by first|exact fun h=>absurd (h.symm.trans hv) e_|exact fun _=>ac_all M f9),(by first|exact fun _=>rfl|exact fun h=>absurd (hv.symm.trans h) e_)⟩
end Go.Proofs.YtgdggmlghemecaaDoor.mg
