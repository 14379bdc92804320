/-
Symbolic runs of the code that the law reaches, part 2. No condition but bounds on lengths.
-/
import Derived.Test.YtgdggmlghemecaaGreatDoorZEV0
noncomputable section
namespace Go.Proofs.YtgdggmlghemecaaGreatDoor
open Go.R
open Inhabited renaming default→v_
set_option maxRecDepth 10000
set_option maxHeartbeats 8000000
set_option linter.unusedVariables false
set_option linter.unusedSimpArgs false
open m1 m2 m3 m4 m5 m6 m7 m8 ma ml mb mc md mf
namespace mg
variable (ex:FuncId) {F:Fz} {H:Heap} {R:List Fp}
def acK(c:VFnT)(k r:Nat):Prop:= ∃b i,b<k/\i<(bH c b).v.length/\acI c b i r
theorem call_a{p g:Int}{v}(h:eV p g v=true)(N:v.i.op=6):0<=v.i.a/\v.i.a<g/\∀x∈v.args,0<=x/\x<g:=by
 unfold eV at h;simp only[a0a]at h;obtain⟨⟨⟨⟨⟨_,E⟩,A⟩,_⟩,_⟩,_⟩:=h;rw[N]at A;have e:(decide (aK 6≠1))=true:=by decide
 rw[e]at A;have A:m2.bg g v.i.a=true:=A;unfold m2.bg at E A;simp only[decide_eq_true_eq,a0t]at E A;exact⟨A.1,A.2,E⟩
theorem rem0{s w:List U64}{n:Nat}{l:List Int}(h: ∀i,aH w i=(aH s i&& !decide (i=n)))(i:Nat):aH w i=((aH s i&& !decide (i=n))||decide ((i:Int)∈l.take 0)):=by rw[h];simp
theorem add_f{f:Nat->Bool}{w w':List U64}{l:List Int}{k:Nat}(N:k<l.length)(h: ∀i,aH w i=(f i||decide ((i:Int)∈l.take k)))(h0:0<=l.getD k 0)(E: ∀i,aH w' i=(aH w i||decide (i=(l.getD k 0).toNat)))(i:Nat):aH w' i=(f i||decide ((i:Int)∈l.take (k+1))):=by
 rw[E,h,bx N (d:=0),Bool.or_assoc];congr 1;rw[a0s];simp only[a0C,decide_eq_true_eq,a09,a0b];constructor
 ·rintro(A|A)
  ·exact .inl A
  exact .inr M
 rintro(A|A)
 ·exact .inl A
 exact .inr M
theorem ac_yes{c b i q s w a N}(T:((bH c b).v.getD i v_).i.op=6)(h0:0<=((bH c b).v.getD i v_).i.a)(hs: ∀r,aH s r=true↔ptS c b (i+1) r)(Z:((bH c b).v.getD i v_).args.length<=q)
  (hw: ∀r,aH w r=((aH s r&& !decide (r=((bH c b).v.getD i v_).i.a.toNat))||decide ((r:Int)∈((bH c b).v.getD i v_).args.take q))) (U: ∀r,aH N r=(aH a r||aH w r)) (r:Nat):aH N r=true↔(aH a r=true\/acI c b i r):=by
 rw[U,hw,a0h Z]
 simp only[a0C,a0a,a0F,decide_eq_false_iff_not,decide_eq_true_eq,hs]
 unfold acI
 constructor
 ·rintro(h|⟨A,E⟩|h)
  ·exact .inl h
  ·exact .inr ⟨T,.inl ⟨A,M⟩⟩
  exact .inr ⟨T,.inr h⟩
 rintro(h|⟨_,⟨A,E⟩|h⟩)
 ·exact .inl h
 ·exact .inr (.inl ⟨A,M⟩)
 exact .inr (.inr h)
theorem ac_no{c b i a}(A:((bH c b).v.getD i v_).i.op≠6)(r:Nat):aH a r=true↔(aH a r=true\/acI c b i r):=⟨.inl,fun h=>h.elim id fun h=>absurd h.1 A⟩
theorem ac_step{c b}{i:Int}{a U}(hi:0<=i)(Z:i.toNat<(bH c b).v.length)(h: ∀r,aH a r=true↔(acK c b r\/∃j,(i+1).toNat<=j/\j<(bH c b).v.length/\acI c b j r))(T: ∀r,aH U r=true↔(aH a r=true\/acI c b i.toNat r))(r:Nat):
  aH U r=true↔(acK c b r\/∃j,(i-1+1).toNat<=j/\j<(bH c b).v.length/\acI c b j r):=by
 rw[T,h]
 constructor
 ·rintro((A|⟨j,A,N,E⟩)|A)
  ·exact .inl A
  ·exact .inr ⟨j,M,N,E⟩
  exact .inr ⟨i.toNat,M,Z,A⟩
 rintro(A|⟨j,A,N,E⟩)
 ·exact .inl (.inl A)
 rcases a0k j (i+1).toNat with hj|hj
 ·have:j=i.toNat:=M
  subst this;exact .inr E
 exact .inl (.inr ⟨j,hj,N,E⟩)
theorem ac_first{c b n a}(N:(bH c b).v.length<=n)(h: ∀r,aH a r=true↔acK c b r)(r:Nat):aH a r=true↔(acK c b r\/∃j,n<=j/\j<(bH c b).v.length/\acI c b j r):=by rw[h];exact⟨.inl,fun h=>h.elim id fun⟨j,E,A,_⟩=>absurd A M⟩
theorem ac_next{c b}{i:Int}{a}(hi:i<0)(h: ∀r,aH a r=true↔(acK c b r\/∃j,(i+1).toNat<=j/\j<(bH c b).v.length/\acI c b j r))(r:Nat):aH a r=true↔acK c (b+1) r:=by
 rw[h];constructor
 ·rintro(⟨T,j,N,A,E⟩|⟨j,_,A,E⟩)
  ·exact⟨T,j,M,A,E⟩
  exact⟨b,j,M,A,E⟩
 rintro⟨T,j,N,A,E⟩;rcases a0k T b with hb|hb
 ·exact .inl ⟨T,j,hb,A,E⟩
 have:T=b:=M
 subst this;exact .inr ⟨j,M,A,E⟩
theorem ac_zero{c a}(h: ∀i,aH a i=false)(r:Nat):aH a r=true↔acK c 0 r:=by rw[h];exact⟨fun h=>(by cases h),fun⟨b,_,A,_⟩=>absurd A (a0D _)⟩
theorem ac_all{c a k}(A:c.u.length=k)(h: ∀r,aH a r=true↔acK c k r):Lst (jV a) (acS c):=lst_of fun r=>by rw[h];subst A;exact Iff.rfl
theorem across_c{av ax}(c:VFnT)(hs:Hb H F H [] R)(l1:in64 c.m)(l2:in64 c.r)(a1:Sr F av c.u ax)(hT:TB 37 tabC F)(hd: ∀j,(c.u.getD j v_).v.length<=1073741824):kKt ex 69 [(aG [c.m,c.r,(sL av c.u.length ax)])] H fun v H'=> ∃ar,∃(kr:Nat) (r:List Int),∃p F',F.le F'/\Hb H F' H' [p] R/\v=sL ar r.length kr/\OZ F' ar r kr p/\(cb c=true->Lst r (acS c))/\(cb c=false->r=[]):=by
 refine aB Tryz.func69 V V (am 1 V (ab (aT (aN hs V V) V V ?_)));rintro _ H2 _ ⟨b1,rfl,hg,_⟩;let hM:Value:=(aG [c.m,c.r,(sL av c.u.length ax)])
 refine za N_ (ae 3 V (ab (aS 1 0 14 14 [] [(14,hM)] (Hr_ 0 0 Hn_) hg V V fun _=>zc (m3.kM ex c (HS.call hg) M M a1 hT (fun j=>a0e (hd j) M)) ?_)));rintro _ H4 ⟨r4,F4,go,c5,rfl,rfl⟩;replace c5:=HS.back hg V c5;replace hT:=hT.mono go;replace a1:=a1.mono go;refine bK 1 2 16 16 [] [(16,(!(cb c)))] Hn_ K_ V fun _=>ae 1 V (zI 1 2 (fun c6=>?_) fun c6=>?_)
 ·have hv:=c6;refine wT 1 [] 2 2 [] [(2,N_)] V fun _=>ak ⟨.inr V,_,V,none,0,([]:List Int),[],_,(go),(HS.cons (HS.forget c5)),V,(OS.nil:OS _ _ _ []),(by first|exact fun h=>absurd (h.symm.trans hv) e_|exact fun _=>ac_all M g3),(by first|exact fun _=>rfl|exact fun h=>absurd (hv.symm.trans h) e_)⟩
 have hv:=c6;have vF:=e9 hv;have p6:=vF.nb;have p7:=vF.r;have p8:=wd_le vF.r;refine ab (aS 1 0 18 18 [] [(18,hM)] (Hr_ 0 0 Hn_) c5 V V fun _=>zc (mc.analyze_c ex c (HS.call c5) M M a1 hT X (fun j=>a0e (hd j) M)) ?_);rintro _ H9 ⟨kx,mx,o1,b2,cc,aq,F9,g9,ez,rfl,ko,bz,h9⟩;replace ez:=HS.back c5 V ez;replace hT:=hT.mono g9;refine bK 5 2 20 21 [3,4,17] [(4,(sL b2 aq.length cc))] Hn_ K_ V fun _=>ae 2 V ?_
 have an:=(by assumption:AnF c _ _)
 have p4:=an.li;have p5:=an.lo;refine ab (aS 2 0 22 23 [] [(23,c.r)] (Hr_ 1 0 Hn_) ez V V fun _=>zc (mb.empty_c ex c.r (HS.call ez) M hT M) ?_);rintro _ ol ⟨g4,ht,o7,jb,il,dk,d1,rfl,hF,rfl⟩;replace d1:=HS.back ez V d1;let g2:Fp:=(fP b1 [c.m,c.r,(sL av c.u.length ax)])
 refine za (sL g4 (List.replicate (Int.tdiv (c.r+63) 64).toNat (⟨0⟩:U64)).length ht) (ae 3 V (aU 2 25 28 [] [(26,(sL av c.u.length ax)),(27,(c.u.length:Int)),(28,(iI 0))] (Hr_ 1 0 Hn_) d1 V V fun _=>aj (fun(mm:Nat) f H'=> ∃(aw:List U64) (k:Nat),∃a2,∃(a3:Nat),∃bb F',il.le F'/\Hb H F' H' [g2,bb] R/\OZ F' a2 aw a3 bb/\aA f [(4,(sL b2 aq.length cc)),(5,(sL a2 aw.length a3)),(26,(sL av c.u.length ax)),(27,(c.u.length:Int)),(28,(k:Int))]/\mm=c.u.length-k/\(aw.length=wds c)/\(∀r,aH aw r=true↔acK c k r)/\(k<=c.u.length)) _ ⟨List.replicate (Int.tdiv (c.r+63) 64).toNat (⟨0⟩:U64),0,g4,ht,jb,_,fR,d1,hF,f_,V,(by simp[wds]),(ac_zero (fun i=>bit_rep _ _)),r_⟩ ?_));rintro n2 oW oo ⟨aw,k,a2,a3,bb,hH,b4,b6,a7,ha,rfl,oU,g3,hk⟩ h5;refine au _ ha (fun _=>?_);clear ha;replace hT:=(hT.mono dk).mono b4;replace a1:=((a1.mono g9).mono dk).mono b4;replace bz:=(bz.mono dk).mono b4;refine am 1 V (wT 2 [] 29 29 [] [(29,(decide ((k:Int)<(c.u.length:Int))))] V fun _=>zd 4 5 (fun i1=>?_) fun i1=>?_)
 ·have hy:k<c.u.length:=M
  have p3:((c.u.getD k v_).f=2\/(c.u.getD k v_).f=3)->0<=(c.u.getD k v_).r/\(c.u.getD k v_).r<c.r:=vF.f k hy;have p2:=hd k;have pJ:=an.wo k hy;have mk:(aq.getD k []).length=wds c:=pJ;refine ab ?_;obtain⟨dd,hl⟩:=Sv.view (SR.sv a1 b6);obtain⟨j2,ka,kc,kd,bl⟩:=BlkT.fx (hl k);let hO:Value:=(aG [(sL (cA (dd k) 0) (c.u.getD k v_).v.length (cK (dd k) 0)),(c.u.getD k v_).f,(c.u.getD k v_).r,(c.u.getD k v_).t,(c.u.getD k v_).e])
  refine bK 3 0 30 32 [] [(30,(k:Int)),(32,hO)] (Ha_ (Sv.ix (j:=(k:Int)) (SR.sv a1 b6)) (Hl_ 2 (qn 82 0 5 (BlkT.vw (hl k)) V V V V) Hn_)) K_ V fun _=>zn b6 V fun f8 ow h2=>sgo 2 4 1 0 [6] [(6,(k:Int))] (Hr_ 5 2 Hn_) h2 V V fun k0 ox h3=>ae 2 V (ab (zlo ([]:List U64) h3 V RL.nl V fun oR o3 o5 oy hX d2=>?_))
  obtain⟨g7,hm⟩:=Sv.view (SR.sv bz d2);have j1:=fL (hm k);refine bK 4 1 34 37 [] [(37,(sL (cA (g7 k) 0) (aq.getD k v_).length (cK (g7 k) 0)))] (Ha_ (Sv.ix (j:=(k:Int)) (SR.sv bz d2)) (Hl_ 4 (ql 185 0 (vL (hm k)) V V) Hn_)) K_ V fun _=>zao 3 hX d2 (SR.sv j1 d2) V V V M fun ci c7 jq oz fj f1=>?_
  have fj:OS hH (sL ci (aq.getD k v_).length c7) (aq.getD k v_) jq:=fj;refine za (sL ci (aq.getD k v_).length c7) (ae 2 V (ab (aS 2 0 39 40 [] [(39,(sL ci (aq.getD k v_).length c7)),(40,hO)] (Hr_ 1 2 Hn_) f1 V V fun _=>zc (mb.addT_c ex (aq.getD k v_) (c.u.getD k v_) (HS.callOwn f1 (i:=3) V) fj bl M M M M hT M M) ?_)));rintro _ oD ⟨hw,h8,it,dl,em,rfl,e2,k4,k9⟩;replace em:=f1.bO em;replace a7:=a7.mono dl;have mI:=OS.len' e2;let hD:Fp:=(fP f8 [(sL (cA (dd k) 0) (c.u.getD k v_).v.length (cK (dd k) 0)),(c.u.getD k v_).f,(c.u.getD k v_).r,(c.u.getD k v_).t,(c.u.getD k v_).e])
  refine ae 2 V (aU 2 42 45 [9] [(9,(iI (((c.u.getD k v_).v.length:Int)-1)))] (Hr_ 1 2 (Ha_ (vi (n:=((c.u.getD k v_).v.length:Int)-1)) Hn_)) em V V fun _=>aj (fun(mm:Nat) f H'=> ∃(ag:List U64) (sw:List U64) (iz:Int),∃A,∃(N:Nat),∃ap E,∃(T:Nat),∃a4 F',it.le F'/\Hb H F' H' [g2,ap,hD,a4] R/\OZ F' A ag N ap/\OZ F' E sw T a4/\aA f [(4,(sL b2 aq.length cc)),(5,(sL A ag.length N)),(7,(pT f8 0)),(8,(sL E sw.length T)),(9,iz),(26,(sL av c.u.length ax)),(27,(c.u.length:Int)),(28,(k:Int))]/\mm=(iz+1).toNat/\(ag.length=wds c)/\(∀r,aH ag r=true↔(acK c k r\/∃j,(iz+1).toNat<=j/\j<(c.u.getD k v_).v.length/\acI c k j r))/\(sw.length=wds c)/\(-1<=iz/\iz<((c.u.getD k v_).v.length:Int))/\(∀r,aH sw r=true↔ptS c k (iz+1).toNat r)) _ ⟨aw,hw,((c.u.getD k v_).v.length:Int)-1,a2,a3,bb,ci,c7,h8,_,fR,em,a7,(OS.norm e2),(agC V (agC V (agC V (agC (show Value.slice ci (aq.getD k v_).length c7=Value.slice ci hw.length c7 by rw[OS.len' e2]) f_)))),V,M,(ac_first (show(c.u.getD k v_).v.length<=_ by omega) g3),M,M,(pt_start (show(c.u.getD k v_).v.length<=_ by omega) (an.ho _ hy) X)⟩ ?_);rintro n3 oX oE ⟨ag,sw,iz,A,N,ap,E,T,a4,hI,dn,b7,Z,a8,hb,rfl,oV,hJ,e1,e3,e4⟩ h6;refine au _ hb (fun _=>?_);clear hb;replace hT:=(hT.mono dl).mono dn;replace bl:=(bl.mono dl).mono dn;refine am 2 V (wT 1 [] 46 47 [] [(47,(decide ((0:Int)<=iz)))] V fun _=>zd 4 5 (fun i2=>?_) fun i2=>?_)
  ·have lp:iz.toNat<(c.u.getD k v_).v.length:=M
   have pi:=vF.v k hy iz.toNat lp;have a0:(∀x∈aE ((c.u.getD k v_).v.getD iz.toNat v_),0<=x/\x<c.r)/\(∀x∈ah ((c.u.getD k v_).v.getD iz.toNat v_),0<=x/\x<c.r)/\((c.u.getD k v_).v.getD iz.toNat v_).args.length<=6:=bD pi;have l9:=a0.2.2;refine ab ?_;obtain⟨aa,hn⟩:=Sv.view (SR.sv bl b7);obtain⟨kg,ki,kk,kl,kn,ay⟩:=VInT.fx (hn iz.toNat);let hP:Value:=(aG [((c.u.getD k v_).v.getD iz.toNat v_).i.op,((c.u.getD k v_).v.getD iz.toNat v_).i.a,((c.u.getD k v_).v.getD iz.toNat v_).i.b,((c.u.getD k v_).v.getD iz.toNat v_).i.c,((c.u.getD k v_).v.getD iz.toNat v_).i.n,(sL (cA (aa iz.toNat) 5) ((c.u.getD k v_).v.getD iz.toNat v_).args.length (cK (aa iz.toNat) 5))])
   refine aS 5 0 50 54 [] [(54,hP)] (Hr_ 1 2 (Ha_ (Sv.ix (j:=iz) (SR.sv bl b7)) (Hl_ 4 (qn 88 0 6 (VInT.vw (hn iz.toNat)) V V V V) Hn_))) b7 V V fun _=>zn b7 V fun f9 oF h4=>sgo 1 6 1 0 [] [] (Hr_ 6 4 Hn_) h4 V V fun k3 oG f2=>ae 3 V (aU 1 55 58 [] [(58,(((c.u.getD k v_).v.getD iz.toNat v_).i.op==6))] (Hr_ 2 4 Hn_) f2 V V fun _=>ba (fun f H'=> ∃(b3:List U64),∃a5,∃(a9:Nat),∃bk F',hI.le F'/\Hb H F' H' [g2,bk,hD,a4,(fP f9 [((c.u.getD k v_).v.getD iz.toNat v_).i.op,((c.u.getD k v_).v.getD iz.toNat v_).i.a,((c.u.getD k v_).v.getD iz.toNat v_).i.b,((c.u.getD k v_).v.getD iz.toNat v_).i.c,((c.u.getD k v_).v.getD iz.toNat v_).i.n,(sL (cA (aa iz.toNat) 5) ((c.u.getD k v_).v.getD iz.toNat v_).args.length (cK (aa iz.toNat) 5))])] R/\OZ F' a5 b3 a9 bk/\aA f [(4,(sL b2 aq.length cc)),(5,(sL a5 b3.length a9)),(7,(pT f8 0)),(8,(sL E sw.length T)),(9,iz),(10,(pT f9 0)),(26,(sL av c.u.length ax)),(27,(c.u.length:Int)),(28,(k:Int))]/\(b3.length=wds c)/\(∀r,aH b3 r=true↔(aH ag r=true\/acI c k iz.toNat r))) (fun hr=>?_) ?_)
   ·refine zI 1 0 (fun g6=>?_) fun g6=>?_
    ·have hQ:=g6;have ld:0<=((c.u.getD k v_).v.getD iz.toNat v_).i.a/\((c.u.getD k v_).v.getD iz.toNat v_).i.a<c.r/\∀x∈((c.u.getD k v_).v.getD iz.toNat v_).args,0<=x/\x<c.r:=call_a pi hQ;have hW:=ld.1;have l3:=ld.2.1;refine ab (zlo ([]:List U64) f2 V RL.nl V fun oT o4 o6 oI hY hh=>zm (sL E sw.length T) (zao 5 hY hh (OS.sv a8 hh (i:=3) V) V V V M fun co c8 jw oJ f0 f4=>?_));have f0:OZ hI co sw c8 jw:=f0;refine za (sL co sw.length c8) (ae 2 V (ab (aS 4 0 62 65 [] [(62,(sL co sw.length c8)),(65,((c.u.getD k v_).v.getD iz.toNat v_).i.a)] (Hr_ 3 4 Hn_) f4 V V fun _=>zc (mb.rem_c ex sw ((c.u.getD k v_).v.getD iz.toNat v_).i.a (HS.callOwn f4 (i:=5) V) f0 M hT M M) ?_)));rintro _ oK ⟨hz,ib,iv,dt,et,rfl,e5,k5,lf⟩;replace et:=f4.bO et;have m0:=OS.len' e5;refine ae 3 V (aU 2 67 70 [] [(68,(sL (cA (aa iz.toNat) 5) ((c.u.getD k v_).v.getD iz.toNat v_).args.length (cK (aa iz.toNat) 5))),(69,(((c.u.getD k v_).v.getD iz.toNat v_).args.length:Int)),(70,(iI 0))] (Hr_ 1 4 Hn_) et V V fun _=>aj (fun(mm:Nat) f H'=> ∃(tw:List U64) (q:Nat),∃U,∃(a_:Nat),∃bt F',iv.le F'/\Hb H F' H' [g2,ap,hD,a4,(fP f9 [((c.u.getD k v_).v.getD iz.toNat v_).i.op,((c.u.getD k v_).v.getD iz.toNat v_).i.a,((c.u.getD k v_).v.getD iz.toNat v_).i.b,((c.u.getD k v_).v.getD iz.toNat v_).i.c,((c.u.getD k v_).v.getD iz.toNat v_).i.n,(sL (cA (aa iz.toNat) 5) ((c.u.getD k v_).v.getD iz.toNat v_).args.length (cK (aa iz.toNat) 5))]),bt] R/\OZ F' U tw a_ bt/\aA f [(4,(sL b2 aq.length cc)),(5,(sL A ag.length N)),(7,(pT f8 0)),(8,(sL E sw.length T)),(9,iz),(10,(pT f9 0)),(11,(sL U tw.length a_)),(26,(sL av c.u.length ax)),(27,(c.u.length:Int)),(28,(k:Int)),(68,(sL (cA (aa iz.toNat) 5) ((c.u.getD k v_).v.getD iz.toNat v_).args.length (cK (aa iz.toNat) 5))),(69,(((c.u.getD k v_).v.getD iz.toNat v_).args.length:Int)),(70,(q:Int))]/\mm=((c.u.getD k v_).v.getD iz.toNat v_).args.length-q/\(tw.length=wds c)/\(∀i,aH tw i=((aH sw i&& !decide (i=((c.u.getD k v_).v.getD iz.toNat v_).i.a.toNat))||decide ((i:Int)∈((c.u.getD k v_).v.getD iz.toNat v_).args.take q)))/\(q<=((c.u.getD k v_).v.getD iz.toNat v_).args.length)) _ ⟨hz,0,co,c8,ib,_,fR,et,(OS.norm e5),(agC V (agC V (agC V (agC V (agC V (agC V (agC (show Value.slice co sw.length c8=Value.slice co hz.length c8 by rw[OS.len' e5]) f_))))))),V,M,(rem0 X),M⟩ ?_);rintro n4 oZ oL ⟨tw,q,U,a_,bt,n6,b5,b8,c9,hf,rfl,pc,hL,hq⟩ h7;refine au _ hf (fun _=>?_);clear hf;replace hT:=(hT.mono dt).mono b5;replace Z:=(Z.mono dt).mono b5;replace ay:=(ay.mono dt).mono b5;refine am 1 V (wT 2 [] 71 71 [] [(71,(decide ((q:Int)<(((c.u.getD k v_).v.getD iz.toNat v_).args.length:Int))))] V fun _=>zd 4 4 (fun i3=>?_) fun i3=>?_)
     ·have pB:=dm ld.2.2 (k:=q) M;obtain⟨kz,hp⟩:=Sv.view (SR.sv ay b8);have o0:=fI (hp q);refine wrp 1 72 73 [13] [(13,(((c.u.getD k v_).v.getD iz.toNat v_).args.getD q 0))] (Ha_ (Sv.ix (j:=(q:Int)) (SR.sv ay b8)) (Hl_ 1 (ql 3 0 (vI (hp q)) V V) Hn_)) K_ V fun _=>ab (wTo 2 0 [] 74 75 [] [(74,(sL U tw.length a_)),(75,(((c.u.getD k v_).v.getD iz.toNat v_).args.getD q 0))] V fun _=>zc (mb.add_c ex tw (((c.u.getD k v_).v.getD iz.toNat v_).args.getD q 0) (HS.callOwn b8 (i:=5) V) c9 M hT M M) ?_)
      rintro _ oM ⟨hA,ih,n7,hR,f5,rfl,e6,k6,ll⟩;replace f5:=b8.bO f5;have nm:=OS.len' e6;refine ae 2 V (wU 1 [] 70 70 [77] [(70,(iI ((q:Int)+1)))] (vi (n:=(q:Int)+1)) V fun _=>?_);refine h7 _ _ _ ?_ ⟨hA,q+1,U,a_,ih,_,(fT (b5) hR),f5,(OS.norm e6),(agC V (agC V (agC V (agC V (agC V (agC V (agC (show Value.slice U tw.length a_=Value.slice U hA.length a_ by rw[OS.len' e6]) f_))))))),V,M,(add_f M hL pB.1 X),M⟩;omega
     refine ab (wTo 2 0 [] 78 79 [] [(78,(sL A ag.length N)),(79,(sL U tw.length a_))] V fun _=>?_);obtain⟨ob,e0,hj,h1,l4⟩:=OS.frz c9 b8 (i:=5) V;replace hT:=hT.mono e0;replace Z:=Z.mono e0;refine zc (mb.ft ex ag tw (HS.callOwn hj (i:=1) V) Z h1 hT M M) ?_;rintro _ oO ⟨o8,hB,ii,oa,hS,f6,rfl,fd,k7,lr,lz,l0⟩;replace f6:=hj.bO f6;have nx:=OS.len' fd;refine ae 0 V ?_;exact hr _ _ ⟨hB,A,N,ii,_,(fT (fT (fT (dt) b5) e0) hS),(HS.sub f6 (a01 _ _)),(OS.norm fd),(agC V (agC (show Value.slice A ag.length N=Value.slice A hB.length N by rw[OS.len' fd]) f_)),M,(ac_yes (c:=c) (b:=k) (i:=iz.toNat) (q:=q) hQ hW (by rw[show iz.toNat+1=(iz+1).toNat by omega];exact e4) (show((c.u.getD k v_).v.getD iz.toNat v_).args.length<=q by omega) hL X)⟩
    have hQ:=g6;exact hr _ _ ⟨ag,A,N,ap,_,fR,f2,Z,f_,M,(ac_no (c:=c) (b:=k) (i:=iz.toNat) hQ)⟩
   skip;rintro oY oH ⟨b3,a5,a9,bk,n5,ds,f3,ch,he,o2,i5⟩;refine au _ he (fun _=>?_);clear he;replace hT:=hT.mono ds;replace a8:=a8.mono ds;replace ay:=ay.mono ds;refine am 1 V (ab (aS 2 0 81 82 [] [(81,(sL E sw.length T)),(82,hP)] (Hr_ 1 4 Hn_) f3 V V fun _=>zc (mb.mu ex sw ((c.u.getD k v_).v.getD iz.toNat v_) (HS.callOwn f3 (i:=3) V) a8 M M M M M ay hT (by first|omega|exact fun x hx=>by have:=a0.1 x hx;omega|exact fun x hx=>by have:=a0.2.1 x hx;omega) (by first|omega|exact fun x hx=>by have:=a0.1 x hx;omega|exact fun x hx=>by have:=a0.2.1 x hx;omega) (by first|omega|exact fun x hx=>by have:=a0.1 x hx;omega|exact fun x hx=>by have:=a0.2.1 x hx;omega) (by first|omega|exact fun x hx=>by have:=a0.1 x hx;omega|exact fun x hx=>by have:=a0.2.1 x hx;omega)) ?_));rintro _ oP ⟨hC,ik,oc,g8,f7,rfl,fi,k8,lv⟩;replace f7:=f3.bO f7;replace ch:=ch.mono g8;have n1:=OS.len' fi;refine ae 2 V (wU 1 [] 48 49 [9] [(9,(iI (iz-1)))] (vi (n:=iz-1)) V fun _=>?_);refine h6 _ _ _ ?_ ⟨b3,hC,iz-1,a5,a9,bk,E,T,ik,_,(fT (fT (dn) ds) g8),(HS.sub f7 (a01 _ _)),ch,(OS.norm fi),(agC V (agC V (agC V (agC (show Value.slice E sw.length T=Value.slice E hC.length T by rw[OS.len' fi]) f_)))),V,M,(ac_step M lp hJ i5),M,M,(by rw[show(iz-1+1).toNat=iz.toNat by omega];exact tr_next lp (by rw[show iz.toNat+1=(iz+1).toNat by omega];exact e4) X)⟩;omega
  refine wU 1 [] 28 28 [84] [(28,(iI ((k:Int)+1)))] (vi (n:=(k:Int)+1)) V fun _=>?_
  refine h5 _ _ _ ?_ ⟨ag,k+1,A,N,ap,_,(fT (fT (b4) dl) dn),(HS.sub b7 (a01 _ _)),Z,f_,V,M,(ac_next M hJ),M⟩;omega
 refine ab (zm (sL a2 aw.length a3) ?_);obtain⟨kp,gt,g1,hG,hE⟩:=OS.frz a7 b6 (i:=1) V;refine zc (mb.list_c ex aw (HS.call g1) hG (hT.mono gt) M) ?_;rintro _ oQ ⟨g5,hu,o9,hK,oh,hV,b9,rfl,dv,rfl⟩;replace b9:=HS.back g1 V b9;replace b9:=HS.thawX (b_:=[hK]) b6 (i:=1) V gt hE hV b9;replace dv:=OS.ind (F':=hH) dv;refine za (sL g5 (jV aw).length hu) (ae 1 V (ak ⟨.inr V,_,V,g5,hu,jV aw,hK,_,(fT (fT (fT (go) g9) dk) b4),(HS.only b9 (i:=2) V),V,dv,(fun _=>ac_all M g3),(fun h=>absurd (hv.symm.trans h) e_)⟩))
end mg
open mg
namespace mh
variable (ex:FuncId) {F:Fz} {H:Heap} {R:List Fp}
theorem sameL_yes{a b:List (List Int)}(N:a.length=b.length){k:Nat}(h: ∀j,j<k->a.getD j v_=b.getD j v_)(T:a.length<=k):true=decide (a=b):=by symm;apply decide_eq_true;apply List.ext_getElem N;intro j A E;have:=h j M;rwa [a03,a03,a06 A,a06 E]at this
theorem sameL_no{a b:List (List Int)}{k:Nat}(h: ¬a.getD k v_=b.getD k v_):false=decide (a=b):=by symm;apply decide_eq_false;intro e;rw[e]at h;exact h V
theorem sameL_len{a b:List (List Int)}(h: ¬(a.length:Int)=(b.length:Int)):false=decide (a=b):=by symm;apply decide_eq_false;intro e;rw[e]at h;exact h V
theorem sameLists_c{ad ai}(a:List (List Int)){ag al}(b:List (List Int))(hs:Hb H F H [] R)(ha:Sr F ad a ai)(hb:Sr F ag b al)(hT:TB 37 tabC F)(a1:a.length<=1073741824)(ao: ∀j,(a.getD j v_).length<=1073741824):kKt ex 16 [(sL ad a.length ai),(sL ag b.length al)] H fun v H'=> ∃(r:Bool),H'=H/\v= .bool r/\r=decide (a=b):=by
 refine aB Tryz.func16 V V (am 1 V (wT 3 [] 4 4 [] [(4,false)] V fun _=>wT 1 [] 6 10 [] [(10,((a.length:Int) !=(b.length:Int)))] V fun _=>zI 1 3 (fun c3=>?_) fun c3=>?_))
 ·refine wT 1 [] 4 4 [] [(4,false)] V fun _=>ak ⟨.inr V,_,V,false,V,V,(sameL_len M)⟩
 refine wT 2 [] 1 0 [5] [(5,(iI 0))] V fun _=>aj (fun(mm:Nat) f H'=> ∃(k:Nat),H'=H/\aA f [(0,(sL ad a.length ai)),(1,(sL ag b.length al)),(5,(k:Int))]/\mm=a.length-k/\(k<=a.length)/\(∀j,j<k->a.getD j v_=b.getD j v_)) _ ⟨0,V,f_,V,M,(by intro j hj;omega)⟩ ?_
 rintro aq f6 H ⟨k,rfl,E,rfl,h1,U⟩ a_;refine au _ E (fun _=>?_);clear E;refine am 2 V (wT 1 [] 11 14 [] [(14,(decide ((k:Int)<(a.length:Int))))] V fun _=>zd 4 5 (fun c8=>?_) fun c8=>?_)
 ·obtain⟨ap,N⟩:=Sv.view (SR.sv ha hs);have Z:=fL (N k);obtain⟨an,A⟩:=Sv.view (SR.sv hb hs);have aa:=fL (A k);refine wrDp 1 17 26 [] [(26,(!(decide ((a.getD k v_)=(b.getD k v_)))))] (Ha_ (Sv.ix (j:=(k:Int)) (SR.sv ha hs)) (Hl_ 3 (ql 22 0 (hc0 (vL (N k))) V V) (Ha_ (Sv.ix (j:=(k:Int)) (SR.sv hb hs)) (Hl_ 7 (ql 22 0 (hc0 (vL (A k))) V V) (Hc_ 8 (m6.dB ex (a.getD k v_) (b.getD k v_) (HS.call hs.log0) Z aa hT (ao _)) Hn_))))) V K_ V fun _=>zI 1 2 (fun T=>?_) fun T=>?_
  ·refine wT 1 [] 4 4 [] [(4,false)] V fun _=>ak ⟨.inr V,_,V,false,V,V,(sameL_no (k:=k) X)⟩
  refine wU 1 [] 15 16 [5] [(5,(iI ((k:Int)+1)))] (vi (n:=(k:Int)+1)) V fun _=>?_
  refine a_ _ _ _ ?_ ⟨k+1,V,f_,V,M,(lw U X)⟩;omega
 refine wT 1 [] 4 4 [] [(4,true)] V fun _=>ak ⟨.inr V,_,V,true,V,V,(sameL_yes M U M)⟩
def oS(o:List Int)(r:Nat):Prop:=(r:Int)∈o
structure RpO(b:BlkT)(o:List Int)(g:Int):Prop where
 gb:0<=g/\g<=3000
 len:b.v.length<=1073741824
 v: ∀i,i<b.v.length->(∀x∈aE (b.v.getD i v_),0<=x/\x<g)/\(∀x∈ah (b.v.getD i v_),0<=x/\x<g)/\(b.v.getD i v_).args.length<=6
 f: ∀x∈d7 b,0<=x/\x<g
 asc:Asc o
 mem: ∀x∈o,0<=x/\x<g
theorem RpO.lst{b o}{g:Int}(h:RpO b o g):Lst o (oS o):=⟨h.asc,fun x=>⟨fun A=>⟨(h.mem x A).1,by have:=(h.mem x A).1;unfold oS;rwa [show((x.toNat:Nat):Int)=x by omega]⟩,fun A=>by have:=A.2;unfold oS at this;rwa [show((x.toNat:Nat):Int)=x by omega]at this⟩⟩
def rpS(b:BlkT)(o:List Int)(i:Nat):Nat->Prop:=tr (b.v.drop i) (endS b (oS o))
theorem rp_lt{b o}{g:Int}(h:RpO b o g){i r}(E:rpS b o i r):(r:Int)<g:=by
 have T: ∀(l:List VInT),(∀w∈l,w∈b.v)->∀r,tr l (endS b (oS o)) r->(r:Int)<g:=by
  intro l;induction l with
  |nil=>
   intro _ r E
   rcases E with A|A
   ·exact(h.mem _ A).2
   exact(h.f _ A).2
  |cons w l ih=>
   intro N r E
   rcases E with E|E
   ·obtain⟨i,hi,U⟩:=a0x.1 (N w (a0q ..));have:=(h.v i hi).1;rw[a03,a06 hi,a0O,U]at this;exact(this _ E).2
   exact ih (fun x Z=>N x (a0i _ Z)) r E.1
 exact T _ (fun w N=>a2l N) r E
theorem rp_start{b o}{g:Int}(h:RpO b o g):Lst (cY o (d7 b)) (rpS b o b.v.length):=by have A:=Lst.addL h.lst (fun x E=>(h.f x E).1);refine⟨A.asc,fun x=>?_⟩;rw[A.mem];unfold rpS;rw[List.drop_length];exact Iff.rfl
theorem rp_step{b o l}{g:Int}{i}(h:RpO b o g)(hi:i<b.v.length)(T:Lst l (rpS b o (i+1))):Lst (cY (gN l (ah (b.v.getD i v_))) (aE (b.v.getD i v_))) (rpS b o i):=by
 have U:=h.v i hi;have N:=Lst.addL (l:=aE (b.v.getD i v_)) (Lst.minus (w:=ah (b.v.getD i v_)) T) fun x Z=>(U.1 x Z).1
 refine⟨N.asc,fun x=>?_⟩;rw[N.mem];unfold rpS;rw[tr_drop hi];constructor
 ·rintro⟨E,A|A⟩
  ·exact⟨E,.inr A⟩
  exact⟨E,.inl A⟩
 rintro⟨E,A|A⟩
 ·exact⟨E,.inr A⟩
 exact⟨E,.inl A⟩
structure RpF(b:BlkT)(o:List Int)(l:List (List Int)):Prop where
 len:l.length=b.v.length+1
 pt: ∀i,i<=b.v.length->Lst (l.getD i v_) (rpS b o i)
theorem rset{b:BlkT}{o:List Int}{i:Nat}{l:List (List Int)}{x:List Int}(T:l.length=b.v.length+1)(h: ∀j,i<j->j<=b.v.length->Lst (l.getD j v_) (rpS b o j))(hi:i<=b.v.length)(N:Lst x (rpS b o i)): ∀j,i<=j->j<=b.v.length->Lst ((l.set i x).getD j v_) (rpS b o j):=fun j E A=>by
 rw[ee];split
 ·rename_i e;obtain⟨rfl,_⟩:=e;exact N
 rename_i e;exact h j M A
theorem end_len{b}:(d7 b).length<=1:=by unfold d7;split<;>simp
theorem rpoints_c{aq ay}(b:BlkT){a0 ck}(o:List Int)(hs:Hb H F H [] R)(U:Sr F aq b.v ay)(hM:in64 b.f)(hO:in64 b.r)(hP:in64 b.t)(hQ:in64 b.e)(ho:Sr F a0 o ck)(hT:TB 37 tabC F)(hp: ∃g,RpO b o g):kKt ex 97 [(aG [(sL aq b.v.length ay),b.f,b.r,b.t,b.e]),(sL a0 o.length ck)] H fun v H'=> ∃al,∃(kl:Nat) (l:List (List Int)),∃p F',F.le F'/\Hb H F' H' [p] R/\v=sL al l.length kl/\OZ F' al l kl p/\(RpF b o l):=by
 obtain⟨g,hp⟩:=hp;have k0:=hp.len;have hg:=hp.gb;have k6:=Lst.len hp.lst hg.1 (fun r h=>(hp.mem _ h).2);have k3:=end_len (b:=b);have k8:(List.replicate (b.v.length+1) ([]:List Int)).length=b.v.length+1:=a0K;refine aB Tryz.func97 V V (am 1 V (ab (aT (aN hs V V) V V ?_)));rintro _ H2 _ ⟨b1,rfl,et,_⟩;refine za N_ (ae 2 V (ab (aS 4 0 7 10 [] [(10,(iI ((b.v.length:Int)+1)))] (Hr_ 1 0 (Ha_ (vi (n:=(b.v.length:Int)+1)) Hn_)) et V V fun _=>aT (cS ([]:(List Int)) et V V V V V V V V V ⟨none,0,V,SR.nil⟩ M M) V V ?_)));rintro _ H5 p4 ⟨a4,k4,rfl,a1,b5,_⟩;have a1:OS F (sL a4 (List.replicate (b.v.length+1) ([]:(List Int))).length k4) (List.replicate (b.v.length+1) ([]:(List Int))) p4:=a1;refine za (sL a4 (List.replicate (b.v.length+1) ([]:(List Int))).length k4) (ae 2 V (aC V (cN 6 12 17 [] [(12,(sL a4 (List.replicate (b.v.length+1) ([]:(List Int))).length k4)),(15,(b.v.length:Int)),(16,(sL a0 o.length ck)),(17,(aG [(sL aq b.v.length ay),b.f,b.r,b.t,b.e]))] (Hr_ 2 0 (Hr_ 5 0 Hn_)) b5 V V fun _=>aQ (W:=[]) (aP V V V) V V V (ma.rend_c ex b (HS.call b5.log0) U M M M M hT) (⟨.inl V,.inr trivial,.inr trivial,.inr a0g,q_⟩) ?_)));rintro _ H7 ⟨it,i2,r7,p7,F7,bt,ax,rfl,f1,rfl⟩;refine⟨Wr.did ax.log,fun hb fd=>?_⟩;replace ax:=HS.back b5.log0 V ax;replace ax:=HS.lg ax b5 fd;generalize ({H7 with log:=hb}:Heap)=ik at ax⊢;obtain⟨F8,bz,co,g9,i1⟩:=OS.frz f1 ax (i:=2) V;replace hT:=(hT.mono bt).mono bz;replace ho:=(ho.mono bt).mono bz;refine aQ (W:=[]) (aP V V V) V V V (ma.ft ex o (d7 b) (HS.call co.log0) ho g9 hT M) (⟨.inl V,.inl V,.inl V,.inr trivial,.inr a0g,q_⟩) ?_;rintro _ H9 ⟨g6,ha,r9,F9,b4,ap,rfl,f2,rfl⟩;refine⟨Wr.did ap.log,fun he fi=>?_⟩;replace ap:=HS.back co.log0 V ap;replace ap:=HS.lg ap co fi;generalize ({H9 with log:=he}:Heap)=il at ap⊢;replace a1:=((a1.mono bt).mono bz).mono b4;refine zy (List Int) (b.v.length:Int) (OS.sv a1 ap.log0 (i:=1) V) (gc (id:= .x (p4.map Prod.fst)) (bW (α:=(List Int)) (j:=b.v.length) (off:=0) (q:=1) (cY o (d7 b)) a1 ap.log0 V V V V V V V V (aO (x:=v_) M) V (by rintro cs ⟨_,_,rfl,_⟩;exact⟨a08 V,⟨g6,ha,V,f2⟩⟩)) V (by rintro _ _ ez ⟨a8,_,hwr⟩;exact dh V V (Wr.did hwr)) (kb V) ?_);rintro _ gt ez ⟨a8,aw,_⟩ f5 dd;replace aw:=HS.lg aw ap dd;generalize ({gt with log:=f5}:Heap)=hA at aw⊢;have hv:=OS.len' a8;refine aW 3 V (aU 2 21 24 [6] [(6,(iI ((b.v.length:Int)-1)))] (Hr_ 1 0 (Ha_ (vi (n:=(b.v.length:Int)-1)) Hn_)) aw V V fun _=>aj (fun(mm:Nat) f H'=> ∃(pl:List (List Int)) (iz:Int),∃A,∃(E:Nat),∃aa F',F9.le F'/\Hb H F' H' [(fP b1 [(sL aq b.v.length ay),b.f,b.r,b.t,b.e]),aa,[]] R/\OZ F' A pl E aa/\aA f [(2,(pT b1 0)),(5,(sL A pl.length E)),(6,iz)]/\mm=(iz+1).toNat/\(pl.length=b.v.length+1)/\(-1<=iz/\iz<(b.v.length:Int))/\(∀j,(iz+1).toNat<=j->j<=b.v.length->Lst (pl.getD j v_) (rpS b o j))) _ ⟨(List.replicate (b.v.length+1) ([]:(List Int))).set b.v.length (cY o (d7 b)),(b.v.length:Int)-1,a4,k4,ez,_,fR,aw,(OS.norm a8),(agC V (agC (show Value.slice a4 (List.replicate (b.v.length+1) ([]:(List Int))).length k4=Value.slice a4 ((List.replicate (b.v.length+1) ([]:(List Int))).set b.v.length (cY o (d7 b))).length k4 by rw[OS.len' a8]) f_)),V,o_,M,(fun j h1 h2=>by(rw[show j=b.v.length by omega,ee,if_pos ⟨V,by simp⟩];exact rp_start hp))⟩ ?_);rintro h4 iv ii ⟨pl,iz,A,E,aa,h5,a2,a_,T,ci,rfl,e2,e3,e5⟩ f3;refine au _ ci (fun _=>?_);clear ci;replace hT:=(hT.mono b4).mono a2;replace U:=(((U.mono bt).mono bz).mono b4).mono a2;refine am 2 V (wT 1 [] 25 26 [] [(26,(decide ((0:Int)<=iz)))] V fun _=>zd 3 5 (fun g7=>?_) fun g7=>?_)
 ·have c0:iz.toNat<b.v.length:=M
  have hL:=hp.v iz.toNat c0;have hW:(b.v.getD iz.toNat v_).args.length<=6:=hL.2.2;have k7:=Lst.len (e5 (iz+1).toNat (a0d _) M) hg.1 (fun r h=>rp_lt hp h);have k9:=dM (v:=(b.v.getD iz.toNat v_));have hV:=eD (v:=(b.v.getD iz.toNat v_));have k5:(gN (pl.getD (iz+1).toNat v_) (ah (b.v.getD iz.toNat v_))).length<=(pl.getD (iz+1).toNat v_).length:=a16 _ _;refine aC V ?_;obtain⟨b8,c5⟩:=Sv.view (OS.sv T a_ (i:=1) V);have c8:=fL (c5 (iz+1).toNat);obtain⟨b9,c6⟩:=Sv.view (SR.sv U a_);obtain⟨hh,hj,hk,hl,hm,d2⟩:=VInT.fx (c6 iz.toNat);refine cN 12 29 40 [] [(29,(sL A pl.length E)),(30,iz),(35,(sL (cA (b8 (iz+1).toNat) 0) (pl.getD (iz+1).toNat v_).length (cK (b8 (iz+1).toNat) 0))),(40,(aG [(b.v.getD iz.toNat v_).i.op,(b.v.getD iz.toNat v_).i.a,(b.v.getD iz.toNat v_).i.b,(b.v.getD iz.toNat v_).i.c,(b.v.getD iz.toNat v_).i.n,(sL (cA (b9 iz.toNat) 5) (b.v.getD iz.toNat v_).args.length (cK (b9 iz.toNat) 5))]))] (Ha_ (vi (n:=iz+1)) (Ha_ (Sv.ix (j:=iz+1) (OS.sv T a_ (i:=1) V)) (Hl_ 6 (ql 22 0 (hc0 (vL (c5 (iz+1).toNat))) V V) (Hr_ 8 0 (Ha_ (Sv.ix (j:=iz) (SR.sv U a_)) (Hl_ 11 (qn 88 0 6 (hc0 (VInT.vw (c6 iz.toNat))) V V V V) Hn_)))))) a_ V V fun _=>aQ (W:=[]) (aP V V V) V V V (ma.iF ex (b.v.getD iz.toNat v_) (HS.call a_.log0) M M M M M d2 hT) q_ ?_
  rintro _ g1 ⟨hI,hX,i5,i3,h6,ar,ag,rfl,dv,rfl⟩;refine⟨Wr.did ag.log,fun f6 dk=>?_⟩;replace ag:=HS.back a_.log0 V ag;replace ag:=HS.lg ag a_ dk;generalize ({g1 with log:=f6}:Heap)=hB at ag⊢;obtain⟨h7,av,b2,fj,hR⟩:=OS.frz dv ag (i:=3) V;replace hT:=(hT.mono ar).mono av;replace c8:=(c8.mono ar).mono av;refine aQ (W:=[]) (aP V V V) V V V (ma.minus_c ex (pl.getD (iz+1).toNat v_) (ah (b.v.getD iz.toNat v_)) (HS.call b2.log0) c8 fj hT M) (kb V) ?_;rintro _ g2 ⟨hJ,hY,jb,i4,h8,a3,N,rfl,bb,rfl⟩;refine⟨Wr.did N.log,fun f7 dl=>?_⟩;replace N:=HS.back b2.log0 V N;replace N:=HS.lg N b2 dl;generalize ({g2 with log:=f7}:Heap)=hC at N⊢;replace hT:=hT.mono a3;replace U:=((U.mono ar).mono av).mono a3;refine zp 0 (bj (v:=(sL aq b.v.length ay)) (id:= .l b1) (fp (i:=0) V V (HS.hc N.log0 (i:=0) V) V V) V V (gf V) (⟨.inl V,.inr a0g,.inr a0g,q_⟩) ?_);obtain⟨cc,c7⟩:=Sv.view (SR.sv U N);obtain⟨hn,hq,hr,ht,hu,em⟩:=VInT.fx (c7 iz.toNat);refine cN 3 45 47 [] [(47,(aG [(b.v.getD iz.toNat v_).i.op,(b.v.getD iz.toNat v_).i.a,(b.v.getD iz.toNat v_).i.b,(b.v.getD iz.toNat v_).i.c,(b.v.getD iz.toNat v_).i.n,(sL (cA (cc iz.toNat) 5) (b.v.getD iz.toNat v_).args.length (cK (cc iz.toNat) 5))]))] (Ha_ (Sv.ix (j:=iz) (SR.sv U N)) (Hl_ 18 (qn 88 0 6 (hc0 (VInT.vw (c7 iz.toNat))) V V V V) Hn_)) N V V fun _=>aQ (W:=[]) (aP V V V) V V V (ma.kf ex (b.v.getD iz.toNat v_) (HS.call N.log0) M M M M M em hT M) (kb V) ?_
  rintro _ g3 ⟨hK,h3,jq,h9,a5,an,rfl,bk,rfl⟩;refine⟨Wr.did an.log,fun f8 dn=>?_⟩;replace an:=HS.back N.log0 V an;replace an:=HS.lg an N dn;generalize ({g3 with log:=f8}:Heap)=hD at an⊢;replace bb:=bb.mono a5;obtain⟨ib,a7,b3,f0,hS⟩:=OS.frz bb an (i:=4) V;replace hT:=(hT.mono a5).mono a7;replace bk:=bk.mono a7;refine aQ (W:=[]) (aP V V V) V V V (ma.ft ex (gN (pl.getD (iz+1).toNat v_) (ah (b.v.getD iz.toNat v_))) (aE (b.v.getD iz.toNat v_)) (HS.call b3.log0) f0 bk hT M) (kb V) ?_;rintro _ g4 ⟨e1,f4,jw,ih,ch,Z,rfl,d1,rfl⟩;refine⟨Wr.did Z.log,fun f9 ds=>?_⟩;replace Z:=HS.back b3.log0 V Z;replace Z:=HS.lg Z b3 ds;generalize ({g4 with log:=f9}:Heap)=hE at Z⊢;replace T:=(((((T.mono ar).mono av).mono a3).mono a5).mono a7).mono ch;refine zy (List Int) iz (OS.sv T Z.log0 (i:=1) V) (gc (id:= .x (aa.map Prod.fst)) (bW (α:=(List Int)) (j:=iz.toNat) (off:=0) (q:=1) (cY (gN (pl.getD (iz+1).toNat v_) (ah (b.v.getD iz.toNat v_))) (aE (b.v.getD iz.toNat v_))) T Z.log0 V V V V V V V V (aO (x:=v_) M) V (by rintro cs ⟨_,_,rfl,_⟩;exact⟨a08 V,⟨e1,f4,V,d1⟩⟩)) V (by rintro _ _ e0 ⟨a9,_,hwr⟩;exact dh V V (Wr.did hwr)) (kb V) ?_);rintro _ g5 e0 ⟨a9,bl,_⟩ go dt;replace bl:=HS.lg bl Z dt;generalize ({g5 with log:=go}:Heap)=hF at bl⊢;have hw:=OS.len' a9;refine aW 2 V (wU 1 [] 27 28 [6] [(6,(iI (iz-1)))] (vi (n:=iz-1)) V fun _=>?_);refine f3 _ _ _ ?_ ⟨pl.set iz.toNat (cY (gN (pl.getD (iz+1).toNat v_) (ah (b.v.getD iz.toNat v_))) (aE (b.v.getD iz.toNat v_))),iz-1,A,E,e0,_,(fT (fT (fT (fT (fT (fT (a2) ar) av) a3) a5) a7) ch),(HS.sub bl (a01 _ _)),(OS.norm a9),(agC V (agC (show Value.slice A pl.length E=Value.slice A (pl.set iz.toNat (cY (gN (pl.getD (iz+1).toNat v_) (ah (b.v.getD iz.toNat v_))) (aE (b.v.getD iz.toNat v_)))).length E by rw[OS.len' a9]) f_)),V,(by rw[a0f];exact e2),M,(by rw[show(iz-1+1).toNat=iz.toNat by omega];exact rset e2 (fun j h1 h2=>e5 j M h2) M (rp_step hp c0 (by rw[show iz.toNat+1=(iz+1).toNat by omega];exact e5 _ (a0d _) M)))⟩;omega
 refine wT 1 [] 4 4 [51] [(4,(sL A pl.length E))] V fun _=>ak ⟨.inr V,_,V,A,E,pl,aa,_,(fT (fT (fT (bt) bz) b4) a2),(HS.only a_ (i:=1) V),V,T,(⟨e2,fun i hi=>e5 i M hi⟩)⟩
def acV(v:VInT)(l:List Int):List Int:=if v.i.op=6 then cY (gN l [v.i.a]) (aE v) else []
theorem oj{T U}(l:List (List Int))(k:Int)(hs:Hb H F H [] R)(hl:Sr F T l U)(hk:in64 k)(hT:TB 37 tabC F)(hk:0<=k/\k+1<(l.length:Int)/\l.length<=1073741825):kKt ex 62 [(S_ T l U),k] H fun v H'=> ∃Z,∃(kr:Nat) (r:List Int),H'=H/\v=sL Z r.length kr/\Sr F Z r kr/\r=l.getD (k+1).toNat v_:=by refine aB Tryz.func62 V V (am 1 V (wT 2 [] 4 4 [] [(4,N_)] V fun _=>?_));obtain⟨A,E⟩:=Sv.view (SR.sv hl hs);have N:=fL (E (k+1).toNat);refine wrp 1 4 9 [] [(4,(sL (cA (A (k+1).toNat) 0) (l.getD (k+1).toNat v_).length (cK (A (k+1).toNat) 0)))] (Ha_ (vi (n:=k+1)) (Ha_ (Sv.ix (j:=k+1) (SR.sv hl hs)) (Hl_ 4 (ql 22 0 (vL (E (k+1).toNat)) V V) Hn_))) K_ V fun _=>ak ⟨.inr V,_,V,(cA (A (k+1).toNat) 0),(cK (A (k+1).toNat) 0),(l.getD (k+1).toNat v_),V,V,N,m_⟩
theorem acall_c{T aa}(iv:VInT){al ao}(l:List Int)(hs:Hb H F H [] R)(b6:in64 iv.i.op)(b7:in64 iv.i.a)(b8:in64 iv.i.b)(b9:in64 iv.i.c)(cc:in64 iv.i.n)(U:Sr F T iv.args aa)(hl:Sr F al l ao)(hT:TB 37 tabC F)(f0:l.length<=1048576)(e0:iv.args.length<=1048576):kKt ex 65 [(aG [iv.i.op,iv.i.a,iv.i.b,iv.i.c,iv.i.n,(S_ T iv.args aa)]),(S_ al l ao)] H fun v H'=> ∃ar,∃(kr:Nat) (r:List Int),∃F',F.le F'/\Hb H F' H' [] R/\v=sL ar r.length kr/\Sr F' ar r kr/\r=acV iv l:=by
 refine aB Tryz.func65 V V (am 1 V (ab (aT (aN hs V V) V V ?_)));rintro _ H2 _ ⟨b1,rfl,aw,_⟩;refine za N_ (ae 3 V (aU 1 5 8 [] [(8,(iv.i.op !=6))] (Hr_ 2 0 Hn_) aw V V fun _=>zI 1 2 (fun c4=>?_) fun c4=>?_))
 ·have hq:=c4;refine wT 1 [] 4 4 [] [(4,N_)] V fun _=>ak ⟨.inr V,_,V,none,0,([]:List Int),_,fR,(HS.forget aw),V,(SR.nil:SR F N_ ([]:List Int)),(if_neg hq).symm⟩
 have hq:=c4;refine aC V (cN 4 9 12 [] [(9,(S_ al l ao)),(12,iv.i.a)] (Hr_ 3 0 Hn_) aw V V fun _=>zld [iv.i.a] aw V (RL.cs ⟨V,M⟩ RL.nl) V fun a7 k7 p7 dt b3 b5=>?_);obtain⟨F9,av,ay,b4,dv⟩:=OS.frz b3 b5 (i:=1) V;replace hT:=hT.mono av;replace hl:=hl.mono av;refine aQ (W:=[]) (aP V V V) V V V (ma.minus_c ex l [iv.i.a] (HS.call ay.log0) hl b4 hT (by(simp;omega))) (kb V) ?_;rintro _ bt ⟨c5,c9,d2,d1,dk,ag,A,rfl,a_,rfl⟩;refine⟨Wr.did A.log,fun bb a2=>?_⟩;replace A:=HS.back ay.log0 V A;replace A:=HS.lg A ay a2;generalize ({bt with log:=bb}:Heap)=ch at A⊢;replace hT:=hT.mono ag;replace U:=(U.mono av).mono ag;refine bj (v:=(aG [iv.i.op,iv.i.a,iv.i.b,iv.i.c,iv.i.n,(S_ T iv.args aa)])) (id:= .l b1) (gw (i:=0) V V V (HS.hc A.log0 (i:=0) V) V V V) V V (gf V) (⟨.inr a0g,q_⟩) (aQ (W:=[]) (aP V V V) V V V (ma.kf ex iv (HS.call A.log0) M M M M M U hT M) (kb V) ?_);rintro _ bz ⟨c6,dd,em,dl,an,E,rfl,Z,rfl⟩;refine⟨Wr.did E.log,fun bk a3=>?_⟩;replace E:=HS.back A.log0 V E;replace E:=HS.lg E A a3;generalize ({bz with log:=bk}:Heap)=ci at E⊢;replace a_:=a_.mono an;obtain⟨dn,ap,aq,a9,c8⟩:=OS.frz a_ E (i:=2) V;replace hT:=(hT.mono an).mono ap;replace Z:=Z.mono ap;refine aQ (W:=[]) (aP V V V) V V V (ma.ft ex (gN l [iv.i.a]) (aE iv) (HS.call aq.log0) a9 Z hT (by have h1:(gN l [iv.i.a]).length<=l.length:=a16 _ _;have h2:=eD (v:=iv);omega)) (kb V) ?_;rintro _ b2 ⟨ax,a1,et,ds,a8,N,rfl,a5,rfl⟩;refine⟨Wr.did N.log,fun bl a4=>?_⟩;replace N:=HS.back aq.log0 V N;replace N:=HS.lg N aq a4;generalize ({b2 with log:=bl}:Heap)=co at N⊢;refine fa (sL ax (cY (gN l [iv.i.a]) (aE iv)).length a1) V V V (aW 1 V (ak ⟨.inr V,_,V,ax,a1,cY (gN l [iv.i.a]) (aE iv),_,(fT (fT (fT (fT (av) ag) an) ap) a8),(HS.forget N),V,a5,(if_pos hq).symm⟩))
end mh
open mh
namespace mi
variable (ex:FuncId) {F:Fz} {H:Heap} {R:List Fp}
abbrev dw(l:List (List Int))(b:Nat):List Int:=l.getD b v_
structure RSn(c:VFnT)(I O:List (List Int)):Prop where
 li:I.length=c.u.length
 lo:O.length=c.u.length
 ai: ∀b,Asc (dw I b)
 ao: ∀b,Asc (dw O b)
 si: ∀b,∀x∈dw I b,0<=x/\LIn c b x.toNat
 so: ∀b,∀x∈dw O b,0<=x/\nh c b x.toNat
 mo: ∀b,b<c.u.length->∀r,oS (dw O b) r->outS c (fun t r=>oS (dw I t) r) b r
 mi: ∀b,b<c.u.length->∀r,oS (dw I b) r->inS (bH c b) (oS (dw O b)) r
theorem rsn_zero{c n}(h:n=c.u.length):RSn c (List.replicate n []) (List.replicate n []):=by
 have e: ∀b,dw (List.replicate n ([]:List Int)) b=[]:=fun b=>by unfold dw;rw[a03,a1w];split<;>rfl
 have E: ∀b r,¬oS (dw (List.replicate n ([]:List Int)) b) r:=fun b r h=>by rw[e]at h;cases h
 exact⟨by simp[h],by simp[h],fun b=>by rw[e];exact List.Pairwise.nil,fun b=>by rw[e];exact List.Pairwise.nil,fun b x A=>by(rw[e]at A;cases A),fun b x A=>by(rw[e]at A;cases A),fun b _ r h=>absurd h (E b r),fun b _ r h=>absurd h (E b r)⟩
theorem cT{l b A x}(E:b<l.length):dw (l.set b x) A=if b=A then x else dw l A:=by
 unfold dw;rw[ee];by_cases h:b=A
 ·subst h;rw[if_pos ⟨V,E⟩,if_pos rfl]
 rw[if_neg (fun e=>h e.1),if_neg h]
theorem n8: ∀{b a:List Int},Asc a->Asc b->(∀x∈a,x∈b)->a.Sublist b
 | [],[],_,_,_=>List.Sublist.refl _
 | [],x::a,_,_,h=>absurd (h x (a0q ..)) a0g
 |y::b,[],_,_,_=>List.nil_sublist _
 |y::b,x::a,ha,hb,h=>by
  have E:=List.pairwise_cons.1 ha;have N:=List.pairwise_cons.1 hb;by_cases e:x=y
  ·subst e;refine List.Sublist.cons_cons _ (n8 E.2 N.2 fun z T=>?_);rcases a0w.1 (h z (a0i _ T)) with e|e
   ·subst e;have:=E.1 z T;omega
   exact e
  have U:x∈b:=by
   rcases a0w.1 (h x (a0q ..)) with e'|e'
   ·exact absurd e' e
   exact e'
  have Z:=N.1 x U;refine List.Sublist.cons _ (n8 ha N.2 fun z T=>?_);rcases a0w.1 (h z T) with e'|e'
  ·rcases a0w.1 T with A|A
   ·exact absurd (A.symm.trans e') e
   have:=E.1 z A;omega
  exact e'
theorem mY{a b}(A:Asc a)(E:Asc b)(h: ∀x∈a,x∈b)(N:b.length=a.length):a=b:=(n8 A E h).eq_of_length N.symm
theorem lP{a b}(A:Asc a)(E:Asc b)(h: ∀x∈a,x∈b):a.length<=b.length:=(n8 A E h).length_le
theorem Lst.ext{l S S'}(h:Lst l S)(hs: ∀r,S r↔S' r):Lst l S':=⟨h.asc,fun x=>by rw[h.mem,hs]⟩
def uS(c:VFnT)(I:List (List Int))(b q r:Nat):Prop:= ∃t∈(bu (bH c b)).take q,oS (dw I t.toNat) r
theorem uS_zero{c I b}:Lst [] (uS c I b 0):=Lst.nil fun r ⟨t,h,_⟩=>by simp at h
theorem RSn.lstI{c I O}(h:RSn c I O)(b:Nat):Lst (dw I b) (oS (dw I b)):=⟨h.ai b,fun x=>⟨fun E=>⟨(h.si b x E).1,by unfold oS;rwa [a10 (h.si b x E).1]⟩,fun E=>by have A:=E.2;unfold oS at A;rwa [a10 E.1]at A⟩⟩
theorem uS_step{c I O b q o}(hs:RSn c I O)(N:q<(bu (bH c b)).length)(h:Lst o (uS c I b q)):Lst (cY o (dw I ((bu (bH c b)).getD q 0).toNat)) (uS c I b (q+1)):=by
 refine Lst.ext (Lst.union h (hs.lstI _)) fun r=>?_
 unfold uS;rw[bx N (d:=0)];constructor
 ·rintro(⟨t,A,E⟩|A)
  ·exact⟨t,a09.2 (.inl A),E⟩
  exact⟨_,a09.2 (.inr (a0b.2 V)),A⟩
 rintro⟨t,A,E⟩;rcases a09.1 A with A|A
 ·exact .inl ⟨t,A,E⟩
 rw[a0b]at A;subst A;exact .inr E
theorem uS_all{c I b q r}(A:(bu (bH c b)).length<=q):uS c I b q r↔outS c (fun t r=>oS (dw I t) r) b r:=by unfold uS outS;rw[a0h A]
theorem uS_in{c I O b q r}(hs:RSn c I O)(h:uS c I b q r):nh c b r:=by obtain⟨t,A,E⟩:=h;refine⟨t,a1b A,?_⟩;have:=hs.si _ _ E;exact this.2
theorem uS_lt{c}(v:VF c){I O b q r}(hs:RSn c I O)(h:uS c I b q r):(r:Int)<c.r:=jj v (uS_in hs h)
theorem rpo_of{c}(v:VF c){I O b q o}(hs:RSn c I O)(T:b<c.u.length)(hl:(bH c b).v.length<=1073741824)(U:Lst o (uS c I b q)):RpO (bH c b) o c.r:=by
 refine⟨v.r,hl,fun i hi=>bD (v.v b T i hi),fun x N=>?_,U.asc,fun x N=>?_⟩
 ·unfold d7 at N;split at N
  ·rename_i Z;rw[a0b]at N;have:=v.f b T Z;omega
  cases N
 have A:=(U.mem x).1 N;have E:=uS_lt v hs A.2;omega
theorem rpo_out{c}(v:VF c){b o}(T:b<c.u.length)(hl:(bH c b).v.length<=1073741824)(U:Lst o (nh c b)):RpO (bH c b) o c.r:=by
 refine⟨v.r,hl,fun i hi=>bD (v.v b T i hi),fun x N=>?_,U.asc,fun x N=>?_⟩
 ·unfold d7 at N;split at N
  ·rename_i Z;rw[a0b]at N;have:=v.f b T Z;omega
  cases N
 have A:=(U.mem x).1 N;have E:=jj v A.2;omega
theorem ln{l S}(h:Lst l S)(r:Nat):oS l r↔S r:=by unfold oS;rw[h.mem];exact⟨fun h=>by simpa using h.2,fun h=>⟨M,by simpa using h⟩⟩
structure Stp(c:VFnT)(I O:List (List Int))(b:Nat)(o i:List Int):Prop where
 lo:Lst o (outS c (fun t r=>oS (dw I t) r) b)
 li:Lst i (inS (bH c b) (oS o))
theorem stp_of{c I O b q o l}(N:(bu (bH c b)).length<=q)(E:Lst o (uS c I b q))(A:RpF (bH c b) o l):Stp c I O b o (dw l 0):=
 ⟨Lst.ext E fun r=>uS_all N,Lst.ext (A.pt 0 (a0r _)) fun r=>Iff.rfl⟩
theorem stp_sub{c I O b o i}(h:RSn c I O)(T:b<c.u.length)(s:Stp c I O b o i):(∀x∈dw O b,x∈o)/\(∀x∈dw I b,x∈i):=by
 have E: ∀r,oS (dw O b) r->oS o r:=fun r U=>(ln s.lo r).2 (h.mo b T r U)
 refine⟨fun x N=>?_,fun x N=>?_⟩
 ·have A:=(h.so b x N).1;have:=E x.toNat (by unfold oS;rwa [a10 A]);unfold oS at this;rwa [a10 A]at this
 have A:=(h.si b x N).1;have:=h.mi b T x.toNat (by unfold oS;rwa [a10 A]);exact(s.li.mem x).2 ⟨A,fF E _ this⟩
theorem rsn_set{c I O b o i}(h:RSn c I O)(hb:b<c.u.length)(s:Stp c I O b o i):RSn c (I.set b i) (O.set b o):=by
 obtain⟨so,si⟩:=stp_sub h hb s;have ag:b<I.length:=by rw[h.li];exact hb
 have al:b<O.length:=by rw[h.lo];exact hb
 have mI: ∀t r,oS (dw I t) r->oS (dw (I.set b i) t) r:=fun t r Z=>by
  rw[cT ag];split
  ·rename_i e;subst e;exact si _ Z
  exact Z
 refine⟨by rw[a0f];exact h.li,by rw[a0f];exact h.lo,fun b'=>?_,fun b'=>?_,fun b' x hx=>?_,fun b' x hx=>?_,fun b' an r Z=>?_,fun b' an r Z=>?_⟩
 ·rw[cT ag];split
  ·exact s.li.asc
  exact h.ai b'
 ·rw[cT al];split
  ·exact s.lo.asc
  exact h.ao b'
 ·rw[cT ag]at hx;split at hx
  ·rename_i e;subst e;obtain⟨A,U⟩:=(s.li.mem x).1 hx;refine⟨A,ov c b hb _ (fF (fun r Z=>?_) _ U)⟩;obtain⟨t,E,N⟩:=(ln s.lo r).1 Z;have T:=h.si _ _ N;exact⟨t,E,T.2⟩
  exact h.si b' x hx
 ·rw[cT al]at hx;split at hx
  ·rename_i e;subst e;obtain⟨A,t,E,N⟩:=(s.lo.mem x).1 hx;have T:=h.si _ _ N;exact⟨A,t,E,T.2⟩
  exact h.so b' x hx
 ·rw[cT al]at Z;split at Z
  ·rename_i e;subst e;exact iJ (fun t r=>mI t r) _ _ ((ln s.lo r).1 Z)
  exact iJ (fun t r=>mI t r) _ _ (h.mo b' an r Z)
 rw[cT ag]at Z;rw[cT al];split at Z
 ·rename_i e;subst e;rw[if_pos rfl];exact(ln s.li r).1 Z
 rename_i e;rw[if_neg e];exact h.mi b' an r Z
def cntL(I:List (List Int)):Nat:=(I.map List.length).sum
theorem cntL_set{I b}(A:b<I.length)(s:List Int):cntL (I.set b s)+(dw I b).length=cntL I+s.length:=by unfold cntL dw;rw[List.map_set];have:=sum_set (I.map List.length) b s.length (by rw[a1A];exact A);rw[a03,a18,a06 A]at this;rw[a03,a06 A];exact this
theorem cntL_le{l B}(h: ∀b,(dw l b).length<=B):cntL l<=l.length *B:=by
 unfold cntL;have N: ∀(l:List (List Int)),(∀s∈l,s.length<=B)->(l.map List.length).sum<=l.length *B:=by
  intro l;induction l with
  |nil=>intro _;simp
  |cons s l ih=>
   intro h
   have A:=ih fun x U=>h x (a0i _ U)
   have E:=h s (a0q ..)
   rw[a1L,a27,a04,a1r];omega
 refine N l fun s hs=>?_
 obtain⟨b,T,rfl⟩:=a0x.1 hs;have:=h b;unfold dw at this;rwa [a03,a06 T]at this
def cnt2(I O:List (List Int)):Nat:=cntL I+cntL O
theorem rsn_len{c}(v:VF c){I O}(h:RSn c I O)(b:Nat):((dw I b).length:Int)<=c.r/\((dw O b).length:Int)<=c.r:=by
 have T:=v.r;constructor
 ·have:=lQ (m:=c.r) 0 T.1 (h.ai b) fun x N=>by obtain⟨A,E⟩:=h.si b x N;have:=lin_lt v E;exact⟨A,M⟩
  omega
 have:=lQ (m:=c.r) 0 T.1 (h.ao b) fun x N=>by obtain⟨A,E⟩:=h.so b x N;have:=jj v E;exact⟨A,M⟩
 omega
theorem cnt2_le{c}(v:VF c){I O}(h:RSn c I O):cnt2 I O<=c.u.length *6000:=by
 have N:=v.r;have A:=cntL_le (l:=I) (B:=3000) fun b=>by have:=(rsn_len v h b).1;omega
 have E:=cntL_le (l:=O) (B:=3000) fun b=>by have:=(rsn_len v h b).2;omega
 rw[h.li]at A;rw[h.lo]at E;unfold cnt2;omega
def CL(c:VFnT)(I O:List (List Int))(b:Nat):Prop:=(∀r,outS c (fun t r=>oS (dw I t) r) b r->oS (dw O b) r)/\∀r,inS (bH c b) (oS (dw O b)) r->oS (dw I b) r
theorem stp_same{c I O b o i}(h:RSn c I O)(Z:b<c.u.length)(s:Stp c I O b o i)(N:(o.length:Int)=((dw O b).length:Int))(T:(i.length:Int)=((dw I b).length:Int)):I.set b i=I/\O.set b o=O/\CL c I O b:=by
 obtain⟨so,si⟩:=stp_sub h Z s;have A:=mY (h.ao b) s.lo.asc so M;have E:=mY (h.ai b) s.li.asc si M;refine⟨by rw[←E];exact eM _ _,by rw[←A];exact eM _ _,fun r U=>?_,fun r U=>?_⟩
 ·rw[A];exact(ln s.lo r).2 U
 rw[A]at U;rw[E];exact(ln s.li r).2 U
theorem stp_more{c I O b o i}(h:RSn c I O)(U:b<c.u.length)(s:Stp c I O b o i):cnt2 I O<=cnt2 (I.set b i) (O.set b o)/\(((o.length:Int)≠((dw O b).length:Int)\/(i.length:Int)≠((dw I b).length:Int))->cnt2 I O<cnt2 (I.set b i) (O.set b o)):=by obtain⟨so,Z⟩:=stp_sub h U s;have A:=lP (h.ao b) s.lo.asc so;have E:=lP (h.ai b) s.li.asc Z;have N:=cntL_set (I:=I) (b:=b) (by rw[h.li];exact U) i;have T:=cntL_set (I:=O) (b:=b) (by rw[h.lo];exact U) o;unfold cnt2;exact⟨M,fun h=>by omega⟩
theorem mv{c I O A E b o i m2 m'}(h:RSn c I O)(hb:b<c.u.length)(s:Stp c I O b o i)(h0:m2=false->I=A/\O=E)(U:m2=true->cnt2 A E<cnt2 I O)
  (e:m'=((m2||((o.length:Int) !=((O.getD b v_).length:Int)))||((i.length:Int) !=((I.getD b v_).length:Int)))):(m'=false->I.set b i=A/\O.set b o=E)/\(m'=true->cnt2 A E<cnt2 (I.set b i) (O.set b o))/\(m'=false->(m2=false->∀b':Nat,b<b'->b'<c.u.length->CL c I O b')->∀b':Nat,b<=b'->b'<c.u.length->CL c (I.set b i) (O.set b o) b'):=by
 have hm:=stp_more h hb s
 have al:m'=false->m2=false/\(o.length:Int)=((dw O b).length:Int)/\(i.length:Int)=((dw I b).length:Int):=fun hf=>by rw[e]at hf;simp only[a1i,bne_eq_false_iff_eq]at hf;exact⟨hf.1.1,hf.1.2,hf.2⟩
 refine⟨fun hf=>?_,fun ht=>?_,fun hf hc b' h2 h3=>?_⟩
 ·obtain⟨k1,k2,a_⟩:=al hf;obtain⟨N,T,_⟩:=stp_same h hb s k2 a_;rw[N,T];exact h0 k1
 ·rw[e]at ht;simp only[a0C,bne_iff_ne]at ht;rcases ht with(ht|ht)|ht
  ·have:=U ht;omega
  ·have:=hm.2 (.inl ht);cases m2 with
   |false=>obtain⟨rfl,rfl⟩:=h0 V;exact this
   |true=>have:=U V;omega
  have:=hm.2 (.inr ht);cases m2 with
  |false=>obtain⟨rfl,rfl⟩:=h0 V;exact this
  |true=>have:=U V;omega
 obtain⟨k1,k2,a_⟩:=al hf
 obtain⟨N,T,Z⟩:=stp_same h hb s k2 a_
 rw[N,T]
 rcases a28 h2 with e'|e'
 ·subst e';exact Z
 exact hc k1 b' e' h3
theorem bkf_of{c I O}(h:RSn c I O)(hc: ∀b,b<c.u.length->CL c I O b):BkF c I O:=by
 have U:Clo c (fun b r=>oS (dw I b) r):=fun b T r hr=>(hc b T).2 r (fF (fun q hq=>(hc b T).1 q hq) r hr)
 refine⟨h.li,h.lo,fun b T=>⟨h.ai b,fun x=>⟨h.si b x,fun Z=>?_⟩⟩,fun b T=>⟨h.ao b,fun x=>⟨h.so b x,fun Z=>?_⟩⟩⟩
 ·have:=Z.2 _ U;unfold oS at this;rwa [a10 Z.1]at this
 obtain⟨A,t,E,N⟩:=Z;have:=(hc b T).1 x.toNat ⟨t,E,N _ U⟩;unfold oS at this;rwa [a10 A]at this
theorem ptf_of{c b o l}(E:Lst o (nh c b))(h:RpF (bH c b) o l):PtF c b l:=by
 refine⟨h.len,fun i hi=>Lst.ext (h.pt i hi) fun r=>?_⟩;unfold rpS ptS;have e: ∀r,oS o r↔nh c b r:=ln E;constructor
 ·exact nu (fun q A=>A.imp (e q).1 id) _ r
 exact nu (fun q A=>A.imp (e q).2 id) _ r
theorem kZ{b6 b9}(c:VFnT)(hs:Hb H F H [] R)(ii:in64 c.m)(ik:in64 c.r)(a_:Sr F b6 c.u b9)(hT:TB 37 tabC F)(ci: ∀j,(c.u.getD j v_).v.length<=1073741824):kKt ex 51 [(aG [c.m,c.r,(S_ b6 c.u b9)])] H fun v H'=> ∃ax,∃(kx:Nat) (x:List (List Int)),∃ay,∃(ky:Nat) (y:List (List Int)),∃F',F.le F'/\Hb H F' H' [] R/\v= .tuple ⟨[sL ax x.length kx,sL ay y.length ky]⟩/\Sr F' ax x kx/\Sr F' ay y ky/\(cb c=true->BkF c x y)/\(cb c=false->x=[]/\y=[]):=by
 refine aB Tryz.func51 V V (am 1 V (ab (aT (aN hs V V) V V ?_)));rintro _ H2 _ ⟨b1,rfl,f4,_⟩;refine wTo 2 1 [] 2 3 [] [(2,N_),(3,N_)] V fun _=>ae 3 V (ab (aS 1 0 12 12 [] [(12,(aG [c.m,c.r,(S_ b6 c.u b9)]))] (Hr_ 0 0 Hn_) f4 V V fun _=>zc (m3.eN ex c (HS.call f4) M M a_ hT (fun j=>a0e (ci j) M)) ?_))
 rintro _ H5 ⟨r5,F5,em,ch,rfl,rfl⟩;replace ch:=HS.back f4 V ch;replace hT:=hT.mono em;replace a_:=a_.mono em;refine bK 1 2 14 14 [] [(14,(!(cb c)))] Hn_ K_ V fun _=>ae 1 V (zI 1 2 (fun c7=>?_) fun c7=>?_)
 ·have hv:=c7;refine wT 1 [] 2 3 [] [(2,N_),(3,N_)] V fun _=>ak ⟨.inr V,_,V,none,0,([]:List (List Int)),none,0,([]:List (List Int)),_,(em),(HS.forget ch),V,(SR.nil:SR F5 N_ ([]:List (List Int))),(SR.nil:SR F5 N_ ([]:List (List Int))),(fun h=>absurd (h.symm.trans hv) e_),(fun _=>⟨V,V⟩)⟩
 have hv:=c7;have vF:=e9 hv;have nm:=vF.nb;have lx:=vF.r;refine aC V (cN 3 15 17 [] [(17,(c.u.length:Int))] (Hr_ 1 0 Hn_) ch V V fun _=>eU (id:= .x []) (cS ([]:(List Int)) ch.log0 V V V V V V V V V ⟨none,0,V,SR.nil⟩ M M) V V (by rintro _ _ g5 ⟨d1,ez,rfl,c8,_,hwr⟩;exact dh V V (Wr.did hwr)) (kb V) ?_);rintro _ hD g5 ⟨d1,ez,rfl,c8,a9,_⟩ hA g8;replace a9:=HS.lg a9 ch g8;generalize ({hD with log:=hA}:Heap)=h5 at a9⊢;have c8:OS F5 (sL d1 (List.replicate c.u.length ([]:(List Int))).length ez) (List.replicate c.u.length ([]:(List Int))) g5:=c8;refine zp 2 (bj (v:=(S_ b6 c.u b9)) (id:= .l b1) (fp (i:=2) V V (HS.hc a9.log0 (i:=0) V) V V) V V (gf V) (⟨.inl V,.inr a0g,q_⟩) (bj (v:=(iI (c.u.length:Int))) (id:= .v) (od (α:=BlkT) V V (SR.sv a_ a9.log0)) V V (nP V) (jg _) (eU (id:= .x []) (cS ([]:(List Int)) a9.log0 V V V V V V V V V ⟨none,0,V,SR.nil⟩ M M) V V (by rintro _ _ g6 ⟨d2,e0,rfl,c9,_,hwr⟩;exact dh V V (Wr.did hwr)) (⟨.inl V,.inl V,.inl V,.inr ⟨trivial,trivial⟩,.inr trivial,.inr a0g,q_⟩) ?_)));rintro _ hE g6 ⟨d2,e0,rfl,c9,b8,_⟩ hB g9;replace b8:=HS.lg b8 a9 g9;generalize ({hE with log:=hB}:Heap)=h6 at b8⊢;have c9:OS F5 (sL d2 (List.replicate c.u.length ([]:(List Int))).length e0) (List.replicate c.u.length ([]:(List Int))) g6:=c9;let g7:Fp:=(fP b1 [c.m,c.r,(S_ b6 c.u b9)])
 refine cN 2 1 0 [4,5] [(4,(sL d1 (List.replicate c.u.length ([]:(List Int))).length ez)),(5,(sL d2 (List.replicate c.u.length ([]:(List Int))).length e0))] Hn_ b8 V V fun _=>aW 3 V (wT 2 [] 1 0 [6] [(6,true)] V fun _=>aj (fun(mm:Nat) f H'=> ∃(mo:Bool) (I1:List (List Int)) (O1:List (List Int)),∃av,∃(a1:Nat),∃bk aw,∃(a2:Nat),∃bl F',F5.le F'/\Hb H F' H' [g7,bk,bl] R/\OZ F' av I1 a1 bk/\OZ F' aw O1 a2 bl/\aA f [(1,(pT b1 0)),(4,(S_ av I1 a1)),(5,(S_ aw O1 a2)),(6,mo)]/\mm=mea mo (c.u.length *6000) (cnt2 I1 O1)/\(RSn c I1 O1)/\(mo=false->∀b,b<c.u.length->CL c I1 O1 b)) _ ⟨true,List.replicate c.u.length ([]:(List Int)),List.replicate c.u.length ([]:(List Int)),d1,ez,g5,d2,e0,g6,_,fR,b8,c8,c9,f_,V,(rsn_zero V),(by intro h;cases h)⟩ ?_)
 rintro i5 kz kg ⟨mo,I1,O1,av,a1,bk,aw,a2,bl,hC,co,ds,dd,bb,f1,rfl,e1,cl⟩ hu;refine au _ f1 (fun _=>?_);clear f1;replace hT:=hT.mono co;replace a_:=a_.mono co;have il:=e1.li;have iv:=e1.lo;refine am 2 V (wT 1 [] 23 23 [] [(23,mo)] V fun _=>zI 3 5 (fun hh=>?_) fun hh=>?_)
 ·have lv:=hh;refine wT 2 [] 1 0 [6] [(6,false)] V fun _=>aU 2 24 27 [7] [(7,(iI ((c.u.length:Int)-1)))] (Hr_ 1 0 (Ha_ (vi (n:=(c.u.length:Int)-1)) Hn_)) ds V V fun _=>aj (fun(mm:Nat) f H'=> ∃(bz:Int) (m2:Bool) (I2:List (List Int)) (O2:List (List Int)),∃T,∃(U:Nat),∃a4 A,∃(N:Nat),∃a5 F',hC.le F'/\Hb H F' H' [g7,a4,a5] R/\OZ F' T I2 U a4/\OZ F' A O2 N a5/\aA f [(1,(pT b1 0)),(4,(S_ T I2 U)),(5,(S_ A O2 N)),(6,m2),(7,bz)]/\mm=(bz+1).toNat/\(RSn c I2 O2)/\(-1<=bz/\bz<(c.u.length:Int))/\(m2=false->I2=I1/\O2=O1)/\(m2=true->cnt2 I1 O1<cnt2 I2 O2)/\(m2=false->∀b:Nat,bz<(b:Int)->b<c.u.length->CL c I2 O2 b)) _ ⟨(c.u.length:Int)-1,false,I1,O1,av,a1,bk,aw,a2,bl,_,fR,ds,dd,bb,f_,V,(e1),M,(fun _=>⟨V,V⟩),(by intro h;cases h),(by intro _ b h1 h2;omega)⟩ ?_
  rintro jb k0 ki ⟨bz,m2,I2,O2,T,U,a4,A,N,a5,jw,c5,b2,E,Z,f2,rfl,a7,hbz,hJ,hj,hcl⟩ hw;refine au _ f2 (fun _=>?_);clear f2;replace hT:=hT.mono c5;replace a_:=a_.mono c5;have it:=a7.li;have iz:=a7.lo;refine am 2 V (wT 1 [] 28 29 [] [(29,(decide ((0:Int)<=bz)))] V fun _=>zd 4 5 (fun hF=>?_) fun hF=>?_)
  ·have a6:bz.toNat<c.u.length:=M
   have lp:=ci bz.toNat;refine wT 2 [] 1 0 [8] [(8,N_)] V fun _=>ab ?_
   obtain⟨e6,f6⟩:=Sv.view (SR.sv a_ b2);obtain⟨hP,hQ,hR,hS,he⟩:=BlkT.fx (f6 bz.toNat);refine aS 5 0 32 36 [] [(36,(aG [(sL (cA (e6 bz.toNat) 0) (c.u.getD bz.toNat v_).v.length (cK (e6 bz.toNat) 0)),(c.u.getD bz.toNat v_).f,(c.u.getD bz.toNat v_).r,(c.u.getD bz.toNat v_).t,(c.u.getD bz.toNat v_).e]))] (Hr_ 1 0 (Ha_ (Sv.ix (j:=bz) (SR.sv a_ b2)) (Hl_ 4 (qn 82 0 5 (BlkT.vw (f6 bz.toNat)) V V V V) Hn_))) b2 V V fun _=>zc (ma.rsucc_c ex (c.u.getD bz.toNat v_) (HS.call b2) he M M M M hT) ?_
   rintro _ kk ⟨e3,g3,k6,hg,b7,dt,rfl,b5,rfl⟩;replace dt:=HS.back b2 V dt;refine za (sL e3 (bu (c.u.getD bz.toNat v_)).length g3) (ae 3 V (wT 2 [] 1 0 [10] [(10,(iI 0))] V fun _=>aj (fun(mm:Nat) f H'=> ∃(o:List Int) (q:Nat),∃an,∃(ap:Nat),∃F',hg.le F'/\Hb H F' H' [g7,a4,a5] R/\Sr F' an o ap/\aA f [(1,(pT b1 0)),(4,(S_ T I2 U)),(5,(S_ A O2 N)),(6,m2),(7,bz),(8,(S_ an o ap)),(9,(sL e3 (bu (c.u.getD bz.toNat v_)).length g3)),(10,(q:Int))]/\mm=(bu (c.u.getD bz.toNat v_)).length-q/\(Lst o (uS c I2 bz.toNat q))/\(q<=(bu (c.u.getD bz.toNat v_)).length)) _ ⟨([]:List Int),0,none,0,_,fR,dt,(SR.nil:SR hg N_ ([]:List Int)),f_,V,(uS_zero),M⟩ ?_));rintro jq k3 kl ⟨o,q,an,ap,j1,a8,ag,a3,f3,rfl,ho,hq⟩ hz;refine au _ f3 (fun _=>?_);clear f3;replace hT:=(hT.mono b7).mono a8;replace a_:=(a_.mono b7).mono a8;replace b5:=b5.mono a8;replace E:=(E.mono b7).mono a8;replace Z:=(Z.mono b7).mono a8;have i3:=succ_len (b:=(c.u.getD bz.toNat v_));refine am 2 V (wT 1 [] 38 41 [] [(41,(decide ((q:Int)<((bu (c.u.getD bz.toNat v_)).length:Int))))] V fun _=>zd 3 5 (fun hG=>?_) fun hG=>?_)
   ·have hd:=jJ (l:=bu (c.u.getD bz.toNat v_)) (q:=q) M;have cv:=vF.succ bz.toNat a6 _ hd;have no:=Lst.len ho lx.1 (fun r h=>uS_lt vF a7 h);have nd:((I2.getD ((bu (c.u.getD bz.toNat v_)).getD q 0).toNat v_).length:Int)<=c.r:=(rsn_len vF a7 ((bu (c.u.getD bz.toNat v_)).getD q 0).toNat).1;refine ab ?_;obtain⟨h8,f7⟩:=Sv.view (SR.sv b5 ag);have k4:=fI (f7 q);obtain⟨fd,f8⟩:=Sv.view (OS.sv E ag (i:=1) V);have hM:=fL (f8 ((bu (c.u.getD bz.toNat v_)).getD q 0).toNat);refine bK 8 0 44 51 [] [(44,(S_ an o ap)),(51,(sL (cA (fd ((bu (c.u.getD bz.toNat v_)).getD q 0).toNat) 0) (I2.getD ((bu (c.u.getD bz.toNat v_)).getD q 0).toNat v_).length (cK (fd ((bu (c.u.getD bz.toNat v_)).getD q 0).toNat) 0)))] (Ha_ (Sv.ix (j:=(q:Int)) (SR.sv b5 ag)) (Hl_ 5 (ql 3 0 (vI (f7 q)) V V) (Ha_ (Sv.ix (j:=((bu (c.u.getD bz.toNat v_)).getD q 0)) (OS.sv E ag (i:=1) V)) (Hl_ 7 (ql 22 0 (vL (f8 ((bu (c.u.getD bz.toNat v_)).getD q 0).toNat)) V V) Hn_)))) K_ V fun _=>zc (ma.ft ex o (I2.getD ((bu (c.u.getD bz.toNat v_)).getD q 0).toNat v_) (HS.call ag) a3 hM hT M) ?_
    rintro _ kn ⟨e4,g4,k7,j2,hl,dv,rfl,ha,rfl⟩;replace dv:=HS.back ag V dv;refine za (sL e4 (cY o (I2.getD ((bu (c.u.getD bz.toNat v_)).getD q 0).toNat v_)).length g4) (ae 2 V (wU 1 [] 42 43 [10] [(10,(iI ((q:Int)+1)))] (vi (n:=(q:Int)+1)) V fun _=>?_));refine hz _ _ _ ?_ ⟨cY o (I2.getD ((bu (c.u.getD bz.toNat v_)).getD q 0).toNat v_),q+1,e4,g4,_,(fT (a8) hl),dv,ha,f_,V,(uS_step a7 (show q<(bu (c.u.getD bz.toNat v_)).length by omega) ho),M⟩;omega
   refine ab ?_;obtain⟨fi,f9⟩:=Sv.view (SR.sv a_ ag);obtain⟨hV,hW,hX,hY,hf⟩:=BlkT.fx (f9 bz.toNat);refine aS 6 0 53 58 [] [(57,(aG [(sL (cA (fi bz.toNat) 0) (c.u.getD bz.toNat v_).v.length (cK (fi bz.toNat) 0)),(c.u.getD bz.toNat v_).f,(c.u.getD bz.toNat v_).r,(c.u.getD bz.toNat v_).t,(c.u.getD bz.toNat v_).e])),(58,(S_ an o ap))] (Hr_ 1 0 (Ha_ (Sv.ix (j:=bz) (SR.sv a_ ag)) (Hl_ 4 (qn 82 0 5 (BlkT.vw (f9 bz.toNat)) V V V V) Hn_))) ag V V fun _=>zc (mh.rpoints_c ex (c.u.getD bz.toNat v_) o (HS.call ag) hf M M M M a3 hT (⟨_,rpo_of vF a7 a6 lp ho⟩)) ?_
   rintro _ ko ⟨h7,i4,cc,k5,ka,c6,aq,rfl,et,ih⟩;replace aq:=HS.back ag V aq;replace E:=E.mono c6;replace Z:=Z.mono c6;replace a3:=a3.mono c6;obtain⟨bt,go⟩:=Sv.view (OS.sv et aq (i:=3) V);have hO:=fL (go 0);refine bK 3 7 60 61 [11] [(11,(sL (cA (bt 0) 0) (cc.getD 0 v_).length (cK (bt 0) 0)))] (Ha_ (Sv.ix (j:=0) (OS.sv et aq (i:=3) V) e_ (by(have hq:=RpF.len X;omega))) (Hl_ 8 (ql 22 0 (vL (go 0) (by(have hq:=RpF.len X;omega))) V V) Hn_)) K_ V fun _=>ae 2 V ?_
   obtain⟨h9,gt⟩:=Sv.view (OS.sv Z aq (i:=2) V);have k8:=fL (gt bz.toNat);obtain⟨ib,g2⟩:=Sv.view (OS.sv E aq (i:=1) V);have k9:=fL (g2 bz.toNat);refine wrp 1 62 82 [6] [(6,((m2||((o.length:Int) !=((O2.getD bz.toNat v_).length:Int)))||(((cc.getD 0 v_).length:Int) !=((I2.getD bz.toNat v_).length:Int))))] (Ha_ (fun(g1:m2=false)=>(Sv.ix (j:=bz) (OS.sv Z aq (i:=2) V) (by(try simp only[BS]at g1);(first|(dsimp only;omega)|omega|(have hq:=RpF.len X;dsimp only at hq⊢;omega)|(have hq:=RpF.len X;omega))) (by(try simp only[BS]at g1);(first|(dsimp only;omega)|omega|(have hq:=RpF.len X;dsimp only at hq⊢;omega)|(have hq:=RpF.len X;omega))))) (bp 7 (fun g1=>(ql 22 0 (vL (gt bz.toNat) (by(try simp only[BS]at g1);(first|(dsimp only;omega)|omega|(have hq:=RpF.len X;dsimp only at hq⊢;omega)|(have hq:=RpF.len X;omega)))) V V)) (Ha_ (fun(g1:(m2||((o.length:Int) !=((O2.getD bz.toNat v_).length:Int)))=false)=>(Sv.ix (j:=bz) (OS.sv E aq (i:=1) V) (by(try simp only[BS]at g1);(first|(dsimp only;omega)|omega|(have hq:=RpF.len X;dsimp only at hq⊢;omega)|(have hq:=RpF.len X;omega))) (by(try simp only[BS]at g1);(first|(dsimp only;omega)|omega|(have hq:=RpF.len X;dsimp only at hq⊢;omega)|(have hq:=RpF.len X;omega))))) (bp 17 (fun g1=>(ql 22 0 (vL (g2 bz.toNat) (by(try simp only[BS]at g1);(first|(dsimp only;omega)|omega|(have hq:=RpF.len X;dsimp only at hq⊢;omega)|(have hq:=RpF.len X;omega)))) V V)) Hn_)))) V V fun _=>ab (bK 7 0 83 89 [] [(85,(S_ A O2 N)),(86,bz),(87,(sL (cA (bt 0) 0) (cc.getD 0 v_).length (cK (bt 0) 0))),(88,(S_ an o ap)),(89,(.pointer (some ⟨sB (S_ T I2 U),sO (S_ T I2 U)+bz.toNat *Rp.sz (List Int),none⟩)))] (Ha_ (Sv.ix (j:=bz) (OS.sv E aq (i:=1) V)) Hn_) K_ V fun _=>cL (bW (α:=(List Int)) (j:=bz.toNat) (off:=0) (q:=1) (cc.getD 0 v_) E aq V V V V V V V V (aO (x:=v_) M) V (by rintro cs ⟨_,_,rfl,_⟩;exact⟨a08 V,⟨(cA (bt 0) 0),(cK (bt 0) 0),V,hO⟩⟩)) V ?_)
   rintro _ kp hK ⟨dk,f5,_⟩;have h3:=OS.len' dk;refine bK 1 8 90 90 [] [(90,(.pointer (some ⟨sB (S_ A O2 N),sO (S_ A O2 N)+bz.toNat *Rp.sz (List Int),none⟩)))] (Ha_ (Sv.ix (j:=bz) (OS.sv Z f5 (i:=2) V)) Hn_) K_ V fun _=>cL (bW (α:=(List Int)) (j:=bz.toNat) (off:=0) (q:=2) o Z f5 V V V V V V V V (aO (x:=v_) M) V (by rintro cs ⟨_,_,rfl,_⟩;exact⟨a08 V,⟨an,ap,V,a3⟩⟩)) V ?_
   rintro _ kr hL ⟨dl,hp,_⟩;have h4:=OS.len' dl;refine ae 2 V (wU 1 [] 30 31 [7] [(7,(iI (bz-1)))] (vi (n:=bz-1)) V fun _=>?_);have cv:=stp_of (I:=I2) (O:=O2) (show(bu (c.u.getD bz.toNat v_)).length<=q by omega) ho X;have ck:=mv a7 a6 cv hJ hj V;refine hw _ _ _ ?_ ⟨bz-1,((m2||((o.length:Int) !=((O2.getD bz.toNat v_).length:Int)))||(((cc.getD 0 v_).length:Int) !=((I2.getD bz.toNat v_).length:Int))),I2.set bz.toNat (cc.getD 0 v_),O2.set bz.toNat o,T,U,hK,A,N,hL,_,(fT (fT (fT (c5) b7) a8) c6),(HS.sub hp (a01 _ _)),(OS.norm dk),(OS.norm dl),(agC V (agC (show Value.slice T I2.length U=Value.slice T (I2.set bz.toNat (cc.getD 0 v_)).length U by rw[OS.len' dk]) (agC (show Value.slice A O2.length N=Value.slice A (O2.set bz.toNat o).length N by rw[OS.len' dl]) f_))),V,(rsn_set a7 a6 cv),M,(ck.1),(ck.2.1),(fun h b h1 h2=>ck.2.2 h (fun hm b h1=>hcl hm b M) b M h2)⟩;omega
  refine hu _ _ _ ?_ ⟨m2,I2,O2,T,U,a4,A,N,a5,_,(fT (co) c5),b2,E,Z,f_,V,(a7),(fun h b hb=>hcl h b M hb)⟩;rw[lv];exact mea_lt hj (cnt2_le vF a7)
 refine wT 1 [] 2 3 [91,92] [(2,(S_ av I1 a1)),(3,(S_ aw O1 a2))] V fun _=>?_
 obtain⟨kc,fj,hr,dn,i1⟩:=OS.frz dd ds (i:=1) V;replace bb:=bb.mono fj;obtain⟨kd,f0,ht,hn,i2⟩:=OS.frz bb hr (i:=2) V;replace dn:=dn.mono f0;refine ak ⟨.inr V,_,V,av,a1,I1,aw,a2,O1,_,(fT (fT (fT (em) co) fj) f0),(HS.forget ht),V,dn,hn,(fun _=>bkf_of e1 (cl X)),(fun h=>absurd (hv.symm.trans h) e_)⟩
end mi
open mi
namespace mj
variable (ex:FuncId) {F:Fz} {H:Heap} {R:List Fp}
theorem reads6{v}(T:v.i.op=6)(x:Int):x∈aE v↔x∈v.args:=by
 have A:alV v.i.op=true:=by rw[T];rfl
 have E:(aI v.i.op).ra=false:=by rw[T];rfl
 have N:(aI v.i.op).rb=false:=by rw[T];rfl
 unfold aE;rw[if_pos A,nt];unfold eE;rw[E,N,if_neg o_,if_neg o_,if_neg M,if_pos T];simp
theorem ac_lst{c b i l}(v:VF c)(E:b<c.u.length)(hi:i<(bH c b).v.length)(h:Lst l (ptS c b (i+1))):Lst (acV ((bH c b).v.getD i v_) l) (acI c b i):=by
 unfold acV;have N:=bD (v.v b E i hi);split
 ·rename_i A;refine Lst.ext (Lst.addL (l:=aE ((bH c b).v.getD i v_)) (Lst.minus (w:=[((bH c b).v.getD i v_).i.a]) h) fun x T=>(N.1 x T).1) fun r=>?_
  rw[reads6 A,a0b];unfold acI;exact⟨fun h=>⟨A,h⟩,fun h=>h.2⟩
 rename_i A;exact Lst.nil fun r h=>A h.1
def acJ(c:VFnT)(b k r:Nat):Prop:=acK c b r\/∃j,j<k/\acI c b j r
theorem acj_zero{c b o}(h:Lst o (acK c b)):Lst o (acJ c b 0):=Lst.ext h fun r=>⟨.inl,fun h=>h.elim id fun⟨j,h,_⟩=>absurd h (a0D _)⟩
theorem acj_step{c b k o l}(h:Lst o (acJ c b k))(N:Lst l (acI c b k)):Lst (cY o l) (acJ c b (k+1)):=Lst.ext (Lst.union h N) fun r=>by
 unfold acJ;constructor
 ·rintro((h|⟨j,E,A⟩)|h)
  ·exact .inl h
  ·exact .inr ⟨j,M,A⟩
  exact .inr ⟨k,a1u _,h⟩
 rintro(h|⟨j,E,A⟩)
 ·exact .inl (.inl h)
 rcases a0k j k with hj|hj
 ·exact .inl (.inr ⟨j,hj,A⟩)
 rw[show j=k by omega]at A;exact .inr A
theorem acj_all{c b k o}(U:(bH c b).v.length=k)(h:Lst o (acJ c b k)):Lst o (acK c (b+1)):=Lst.ext h fun r=>by
 unfold acJ acK;constructor
 ·rintro(⟨T,j,N,A,E⟩|⟨j,N,A⟩)
  ·exact⟨T,j,M,A,E⟩
  exact⟨b,j,a1u _,M,A⟩
 rintro⟨T,j,N,A,E⟩;rcases a0k T b with hb|hb
 ·exact .inl ⟨T,j,hb,A,E⟩
 have:T=b:=M
 subst this;exact .inr ⟨j,M,E⟩
theorem ack_zero{c}:Lst [] (acK c 0):=Lst.nil fun r ⟨b,_,A,_⟩=>a0D _ A
theorem ack_all{c b o}(A:b=c.u.length)(h:Lst o (acK c b)):Lst o (acS c):=by subst A;exact h
theorem aci_lt{c}(v:VF c){b i r}(E:b<c.u.length)(hi:i<(bH c b).v.length)(h:acI c b i r):(r:Int)<c.r:=by
 rcases h with⟨N,⟨A,_⟩|A⟩
 ·exact iH v E A
 exact((bD (v.v b E i hi)).1 _ ((reads6 N _).2 A)).2
theorem jS{c}(v:VF c){k r}(T:k<=c.u.length)(h:acK c k r):(r:Int)<c.r:=by obtain⟨b,i,N,A,E⟩:=h;exact aci_lt v M A E
theorem acj_lt{c}(v:VF c){b k r}(N:b<c.u.length)(T:k<=(bH c b).v.length)(h:acJ c b k r):(r:Int)<c.r:=by
 rcases h with h|⟨j,E,A⟩
 ·exact jS v (a2c N) h
 exact aci_lt v N M A
theorem acV_len{v l}:(acV v l).length<=l.length+(3+v.args.length):=by
 unfold acV;split
 ·refine a0e eC ?_;have A:(gN l [v.i.a]).length<=l.length:=a16 _ _;have E:=eD (v:=v);omega
 exact a0r _
theorem rlp_c{T U}(c:VFnT)(block:Int)(hs:Hb H F H [] R)(cc:in64 c.m)(ch:in64 c.r)(A:Sr F T c.u U)(ds:in64 block)(hT:TB 37 tabC F)(a0: ∀j,(c.u.getD j v_).v.length<=1073741824):kKt ex 60 [(aG [c.m,c.r,(S_ T c.u U)]),block] H fun v H'=> ∃al,∃(kl:Nat) (l:List (List Int)),∃F',F.le F'/\Hb H F' H' [] R/\v=sL al l.length kl/\Sr F' al l kl/\(cb c=true->0<=block->block<(c.u.length:Int)->PtF c block.toNat l)/\((cb c=false\/block<0\/(c.u.length:Int)<=block)->l=[]):=by
 refine aB Tryz.func60 V V (am 1 V (ab (aT (aN hs V V) V V ?_)));rintro _ H2 _ ⟨b1,rfl,aq,_⟩;refine za N_ (ae 3 V (sj 1 7 20 [] [(20,(((!(cb c))||(decide (block<0)))||(decide ((c.u.length:Int)<=block))))] (Hr_ 0 0 (Hk_ 1 (jc aq fun _ _ j q=>m3.eN ex c q M M (A.mono j) (hT.mono j) (fun j=>a0e (a0 j) M)) (Hj1_ 10 (fun _=>(jl aq 34 2 0 V V V)) Hn_))) aq V V fun c8 H3 F3 a_ Z=>?_));replace hT:=hT.mono a_;replace A:=A.mono a_;refine zI 1 2 (fun c4=>?_) fun c4=>?_
 ·have hb:=c4;refine wT 1 [] 4 4 [] [(4,N_)] V fun _=>ak ⟨.inr V,_,V,none,0,([]:List (List Int)),_,(a_),(HS.forget Z),V,(SR.nil:SR F3 N_ ([]:List (List Int))),(by first|exact fun h h2 h3=>absurd hb (by simp[h];omega)|exact fun _ _ _=>ptf_of (bk.hy _ ad) X),(by first|exact fun _=>rfl|exact fun h=>by rw[hv]at h;simp at h;omega)⟩
 have hb:=c4;have hv:cb c=true:=hb.1.1;have vF:=e9 hv;have e4:=vF.nb;have ad:block.toNat<c.u.length:=M
 have dn:=a0 block.toNat;refine ab (aS 1 0 22 22 [] [(22,(aG [c.m,c.r,(S_ T c.u U)]))] (Hr_ 0 0 Hn_) Z V V fun _=>zc (mi.kZ ex c (HS.call Z) M M A hT X) ?_);rintro _ H7 ⟨c7,dk,x7,bt,bz,y7,F7,an,E,rfl,co,ap,dd,c9⟩;replace E:=HS.back Z V E;replace hT:=hT.mono an;replace A:=A.mono an;refine bK 5 2 24 25 [5,6,21] [(6,(S_ bt y7 bz))] Hn_ K_ V fun _=>ae 2 V ?_
 have bk:=(by assumption:cb c=true->BkF c _ y7) hv;have e2:=bk.lx;have e3:=bk.ly;have e5:=Lst.len (bk.hy block.toNat ad) vF.r.1 (fun r h=>jj vF h);refine aC V ?_;obtain⟨a2,a3⟩:=Sv.view (SR.sv A E);obtain⟨b3,b4,b5,b6,ay⟩:=BlkT.fx (a3 block.toNat);obtain⟨ag,ar⟩:=Sv.view (SR.sv ap E);have b2:=fL (ar block.toNat);refine cN 9 26 34 [] [(30,(aG [(sL (cA (a2 block.toNat) 0) (c.u.getD block.toNat v_).v.length (cK (a2 block.toNat) 0)),(c.u.getD block.toNat v_).f,(c.u.getD block.toNat v_).r,(c.u.getD block.toNat v_).t,(c.u.getD block.toNat v_).e])),(34,(sL (cA (ag block.toNat) 0) (y7.getD block.toNat v_).length (cK (ag block.toNat) 0)))] (Hr_ 1 0 (Ha_ (Sv.ix (j:=block) (SR.sv A E)) (Hl_ 4 (qn 82 0 5 (hc0 (BlkT.vw (a3 block.toNat))) V V V V) (Ha_ (Sv.ix (j:=block) (SR.sv ap E)) (Hl_ 8 (ql 22 0 (hc0 (vL (ar block.toNat))) V V) Hn_))))) E V V fun _=>aQ (W:=[]) (aP V V V) V V V (mh.rpoints_c ex (c.u.getD block.toNat v_) (y7.getD block.toNat v_) (HS.call E.log0) ay M M M M b2 hT (⟨_,rpo_out vF ad dn (bk.hy _ ad)⟩)) (kb V) ?_
 rintro _ bl ⟨aa,av,a4,dl,c5,a5,N,rfl,ax,b9⟩;refine⟨Wr.did N.log,fun bb aw=>?_⟩;replace N:=HS.back E.log0 V N;replace N:=HS.lg N E aw;generalize ({bl with log:=bb}:Heap)=b8 at N⊢;refine fa (S_ aa a4 av) V V V (aW 1 V ?_);obtain⟨c6,a7,a9,a8,ci⟩:=OS.frz ax N (i:=1) V;refine ak ⟨.inr V,_,V,aa,av,a4,_,(fT (fT (fT (a_) an) a5) a7),(HS.forget a9),V,a8,(fun _ _ _=>ptf_of (bk.hy _ ad) X),(by exact fun h=>by rw[hv]at h;simp at h;omega)⟩
theorem rac_c{aw ay}(c:VFnT)(hs:Hb H F H [] R)(g5:in64 c.m)(g6:in64 c.r)(A:Sr F aw c.u ay)(hT:TB 37 tabC F)(a6: ∀j,(c.u.getD j v_).v.length<=1073741824):kKt ex 30 [(aG [c.m,c.r,(S_ aw c.u ay)])] H fun v H'=> ∃ar,∃(kr:Nat) (r:List Int),∃F',F.le F'/\Hb H F' H' [] R/\v=sL ar r.length kr/\Sr F' ar r kr/\(cb c=true->Lst r (acS c))/\(cb c=false->r=[]):=by
 refine aB Tryz.func30 V V (am 1 V (ab (aT (aN hs V V) V V ?_)));rintro _ H2 _ ⟨b1,rfl,ez,_⟩;let c8:Fp:=(fP b1 [c.m,c.r,(S_ aw c.u ay)])
 refine za N_ (ae 2 V (wT 3 [] 1 0 [3] [(3,N_)] V fun _=>wT 2 [] 1 0 [4] [(4,(iI 0))] V fun _=>aj (fun(mm:Nat) f H'=> ∃(o:List Int) (b:Nat),∃a_,∃(aa:Nat),∃F',F.le F'/\Hb H F' H' [c8] R/\Sr F' a_ o aa/\aA f [(1,(pT b1 0)),(3,(S_ a_ o aa)),(4,(b:Int))]/\mm=c.u.length-b/\(cb c=false->o=[])/\(cb c=true->Lst o (acK c b))/\(cb c=true->b<=c.u.length)/\(b<=1000)) _ ⟨([]:List Int),0,none,0,_,fR,ez,(SR.nil:SR F N_ ([]:List Int)),f_,V,(fun _=>rfl),(fun _=>ack_zero),(fun _=>a0r _),M⟩ ?_));rintro hp f5 H5 ⟨o,b,a_,aa,F5,a4,bz,Z,c6,rfl,hz,ho,hbb,hn⟩ e0;refine au _ c6 (fun _=>?_);clear c6;replace hT:=hT.mono a4;replace A:=A.mono a4;refine am 2 V (sj 1 7 15 [] [(15,((decide ((b:Int)<(c.u.length:Int)))&&cb c))] (Hr_ 2 0 (Hj1_ 6 (fun _=>(jn bz 36 0 3 0 V V V V V)) (Hk1_ 7 (fun g1=>(jc bz fun _ _ j q=>m3.eN ex c q (by(try simp only[BS]at g1);(first|(dsimp only;omega)|omega)) (by(try simp only[BS]at g1);(first|(dsimp only;omega)|omega)) (A.mono j) (hT.mono j) (fun j=>a0e (a6 j) M))) Hn_))) bz V V fun hj H6 F6 a1 a7=>?_);replace hT:=hT.mono a1;replace A:=A.mono a1;replace Z:=Z.mono a1;refine zI 4 5 (fun c7=>?_) fun c7=>?_
 ·have hA:=c7;have hv:cb c=true:=hA.2;have vF:=e9 hv;have hP:=vF.nb;have dd:=vF.r;have al:b<c.u.length:=M
  have hM:=a6 b;refine ab (aS 2 0 18 19 [] [(18,(aG [c.m,c.r,(S_ aw c.u ay)])),(19,(b:Int))] (Hr_ 0 0 Hn_) a7 V V fun _=>zc (rlp_c ex c (b:Int) (HS.call a7) M M A M hT X) ?_);rintro _ H9 ⟨a9,b6,l9,F9,a5,b2,rfl,a3,hm,hl⟩;replace b2:=HS.back a7 V b2;replace Z:=Z.mono a5;refine za (S_ a9 l9 b6) (ae 2 V ?_);have pf:PtF c b l9:=(by assumption:cb c=true->0<=((b:Nat):Int)->((b:Nat):Int)<(c.u.length:Int)->PtF c ((b:Nat):Int).toNat l9) hv M M;have hR:(l9).length=(c.u.getD b v_).v.length+1:=pf.len;refine wT 2 [] 1 0 [6] [(6,(iI 0))] V fun _=>aj (fun(mm:Nat) f H'=> ∃(o2:List Int) (k:Nat),∃T,∃(U:Nat),∃F',F9.le F'/\Hb H F' H' [c8] R/\Sr F' T o2 U/\aA f [(1,(pT b1 0)),(3,(S_ T o2 U)),(4,(b:Int)),(5,(S_ a9 l9 b6)),(6,(k:Int))]/\mm=(c.u.getD b v_).v.length-k/\(k<=(c.u.getD b v_).v.length)/\(Lst o2 (acJ c b k))) _ ⟨o,0,a_,aa,_,fR,b2,Z,f_,V,M,(acj_zero (ho hv))⟩ ?_
  rintro ha hh dv ⟨o2,k,T,U,he,aq,E,ap,bl,rfl,hk,bt⟩ dl;refine au _ bl (fun _=>?_);clear bl;replace hT:=(hT.mono a5).mono aq;replace A:=(A.mono a5).mono aq;replace a3:=a3.mono aq;refine am 2 V ?_;obtain⟨g2,b3⟩:=Sv.view (SR.sv A E);obtain⟨e1,e2,e3,e4,f4⟩:=BlkT.fx (b3 b);refine aU 1 21 29 [] [(29,(decide ((k:Int)<((c.u.getD b v_).v.length:Int))))] (Hr_ 2 0 (Ha_ (Sv.ix (j:=(b:Int)) (SR.sv A E)) (Hl_ 6 (ql 80 0 (BlkT.vw (b3 b)) V V) Hn_))) E V V fun _=>zd 3 5 (fun em=>?_) fun em=>?_
  ·have an:k<(c.u.getD b v_).v.length:=M
   have hQ:=Lst.len bt dd.1 (fun r h=>acj_lt vF al hk h);have hy:(((l9).getD (k+1) v_).length:Int)<=c.r:=Lst.len (pf.pt (k+1) an) dd.1 (fun r h=>iH vF al h);have g4:(((l9).getD (((k:Nat):Int)+1).toNat v_).length:Int)<=c.r:=hy;have g7:((c.u.getD b v_).v.getD k v_).args.length<=6:=(bD (vF.v b al k an)).2.2;have hO:=acV_len (v:=((c.u.getD b v_).v.getD k v_)) (l:=(l9).getD (((k:Nat):Int)+1).toNat v_);refine aC V ?_;obtain⟨g3,b4⟩:=Sv.view (SR.sv A E);obtain⟨e5,e6,fd,fi,a8⟩:=BlkT.fx (b4 b);obtain⟨bk,b5⟩:=Sv.view (SR.sv a8 E);obtain⟨fj,f0,f1,f2,f3,c5⟩:=VInT.fx (b5 k);refine cN 12 32 43 [] [(32,(S_ T o2 U)),(41,(aG [((c.u.getD b v_).v.getD k v_).i.op,((c.u.getD b v_).v.getD k v_).i.a,((c.u.getD b v_).v.getD k v_).i.b,((c.u.getD b v_).v.getD k v_).i.c,((c.u.getD b v_).v.getD k v_).i.n,(sL (cA (bk k) 5) ((c.u.getD b v_).v.getD k v_).args.length (cK (bk k) 5))])),(42,(S_ a9 l9 b6)),(43,(k:Int))] (Hr_ 2 0 (Ha_ (Sv.ix (j:=(b:Int)) (SR.sv A E)) (Hl_ 6 (ql 80 0 (hc0 (BlkT.vw (b4 b))) V V) (Ha_ (Sv.ix (j:=(k:Int)) (SR.sv a8 E)) (Hl_ 9 (qn 88 0 6 (hc0 (VInT.vw (b5 k))) V V V V) Hn_))))) E V V fun _=>aQ (W:=[]) (aP V V V) V V V (mh.oj ex l9 (k:Int) (HS.call E.log0) a3 M hT M) (⟨.inl V,.inl V,.inr trivial,.inr trivial,.inr trivial,.inr trivial,.inr trivial,.inr trivial,.inr trivial,.inr a0g,q_⟩) ?_
   rintro _ _ ⟨go,g8,hq,rfl,rfl,ch,rfl⟩;refine⟨fun b hb=>absurd hb a0g,fun dn b8=>?_⟩;have ax:=HS.lg E.log0 E b8;generalize ({{dv with log:=[]} with log:=dn}:Heap)=f7 at ax⊢;refine aQ (W:=[]) (aP V V V) V V V (mh.acall_c ex ((c.u.getD b v_).v.getD k v_) (l9.getD ((k:Int)+1).toNat v_) (HS.call ax.log0) M M M M M c5 ch hT M M) (kb V) ?_;rintro _ d1 ⟨gt,g9,hr,hf,a2,N,rfl,ci,rfl⟩;refine⟨Wr.did N.log,fun ds b9=>?_⟩;replace N:=HS.back ax.log0 V N;replace N:=HS.lg N ax b9;generalize ({d1 with log:=ds}:Heap)=f8 at N⊢;replace hT:=hT.mono a2;replace ap:=ap.mono a2;refine aQ (W:=[]) (aP V V V) V V V (ma.ft ex o2 (acV ((c.u.getD b v_).v.getD k v_) (l9.getD ((k:Int)+1).toNat v_)) (HS.call N.log0) ap ci hT M) (kb V) ?_;rintro _ d2 ⟨bb,b7,ht,hg,dk,ag,rfl,co,rfl⟩;refine⟨Wr.did ag.log,fun dt cc=>?_⟩;replace ag:=HS.back N.log0 V ag;replace ag:=HS.lg ag N cc;generalize ({d2 with log:=dt}:Heap)=f9 at ag⊢;refine fa (sL bb (cY o2 (acV ((c.u.getD b v_).v.getD k v_) (l9.getD ((k:Int)+1).toNat v_))).length b7) V V V (aW 2 V (wU 1 [] 30 31 [6] [(6,(iI ((k:Int)+1)))] (vi (n:=(k:Int)+1)) V fun _=>?_));refine dl _ _ _ ?_ ⟨cY o2 (acV ((c.u.getD b v_).v.getD k v_) (l9.getD ((k:Int)+1).toNat v_)),k+1,bb,b7,_,(fT (fT (aq) a2) dk),ag,co,f_,V,M,(acj_step bt (ac_lst vF al an (pf.pt (k+1) an)))⟩;omega
  refine wU 1 [] 16 17 [4] [(4,(iI ((b:Int)+1)))] (vi (n:=(b:Int)+1)) V fun _=>?_
  refine e0 _ _ _ ?_ ⟨o2,b+1,T,U,_,(fT (fT (fT (a4) a1) a5) aq),E,ap,f_,V,(fun h=>absurd (hv.symm.trans h) e_),(fun _=>acj_all (show(c.u.getD b v_).v.length=k by omega) bt),(fun _=>al),M⟩;omega
 have hB:cb c=true->c.u.length<=b:=fun h=>by(have hc:=c7;simp only[h]at hc;simp at hc;omega)
 refine wT 1 [] 2 2 [47] [(2,(S_ a_ o aa))] V fun _=>ak ⟨.inr V,_,V,a_,aa,o,_,(fT (a4) a1),(HS.forget a7),V,Z,(fun h=>ack_all (by have h2:=hbb h;have h3:=hB h;omega) (ho h)),X⟩
end mj
open mj
namespace na
variable (ex:FuncId) {F:Fz} {H:Heap} {R:List Fp}
theorem con_at{l}{n:Int}{k}(h:k<l.length)(e:l.getD k 0=n):im l n=true:=ij.2 (e▸jJ h)
theorem con_not{l}{n:Int}{k}(ha:Asc l)(N: ∀j,j<k->l.getD j 0<n)(T: ∀j,k<=j->j<l.length->n<=l.getD j 0)(h: ¬(k<l.length/\l.getD k 0=n)):im l n=false:=by
 rw[a1n];intro hc;obtain⟨j,Z,e⟩:=a0x.1 (ij.1 hc);have e':l.getD j 0=n:=by rw[a03,a06 Z];exact e
 rcases a0k j k with A|A
 ·have:=N j A;omega
 have U:=T k (a0d _) M;rcases a28 A with E|E
 ·subst E;exact h ⟨Z,e'⟩
 have:=asc_at ha E Z;exact h ⟨M,M⟩
theorem con_fin{l:List Int}{n:Int}{lo hi:Nat}(ha:Asc l)(h: ¬(lo:Int)<(hi:Int))(U:lo<=hi/\hi<=l.length)(E: ∀j,j<lo->l.getD j 0<n)(N: ∀j,hi<=j->j<l.length->n<=l.getD j 0)(b:Bool)(Z:b=true↔(lo<l.length/\l.getD lo 0=n)):b=im l n:=by
 have e:lo=hi:=M
 subst e;cases b with
 |true=>obtain⟨A,T⟩:=Z.1 V;exact(con_at A T).symm
 |false=>exact(con_not ha E N fun A=>by have:=Z.2 A;cases this).symm
theorem bs_lo{l}{n:Int}{m}(A:Asc l)(N:m<l.length)(h:l.getD m 0<n): ∀j,j<m+1->l.getD j 0<n:=fun j E=>by
 rcases a28 (Nat.le_of_lt_succ E) with e|e
 ·subst e;exact h
 have:=asc_at A e N;omega
theorem bs_hi{l}{n:Int}{m}(A:Asc l)(h: ¬l.getD m 0<n): ∀j,m<=j->j<l.length->n<=l.getD j 0:=fun j E N=>by
 rcases a28 E with e|e
 ·subst e;omega
 have:=asc_at A e N;omega
theorem con1{n x:Int}:im [n] x=decide (x=n):=by unfold im;simp only[List.any_cons,List.any_nil,a1M];rw[a0s];simp only[decide_eq_true_eq];exact⟨fun h=>h.symm,fun h=>h.symm⟩
theorem ins_in{l}{n:Int}(N:Asc l)(h:im l n=true):dI l n=l:=by
 obtain⟨j,A,e⟩:=a0x.1 (ij.1 h);have E:l.getD j 0=n:=by rw[a03,a06 A];exact e
 have T:=pre_eq (l:=l) (n:=n) (k:=j) M (fun i hi=>by have:=asc_at N hi A;omega) (fun _=>by omega);exact(nH T A E).symm
theorem Lst.v{l S}{n:Int}(h:Lst l S)(N:0<=n):Lst (dI l n) (fun r=>S r\/(r:Int)=n):=⟨ins_asc h.asc,fun x=>by
 rw[ic,h.mem];constructor
 ·rintro(rfl|A)
  ·exact⟨N,.inr M⟩
  exact⟨A.1,.inl A.2⟩
 rintro⟨A,E|E⟩
 ·exact .inr ⟨A,E⟩
 exact .inl M⟩
theorem Lst.del{l S}{n:Int}(h:Lst l S):Lst (gN l [n]) (fun r=>S r/\(r:Int)≠n):=Lst.ext (Lst.minus h) fun r=>by rw[a0b]
structure PtX(c:VFnT)(b:Nat)(l:List (List Int)):Prop where
 len:l.length=(bH c b).v.length+2
 pt: ∀i,i<=(bH c b).v.length->Lst (dw l i) (ptS c b i)
 out:Lst (dw l ((bH c b).v.length+1)) (nh c b)
structure PsF(c:VFnT)(p:List (List (List Int))):Prop where
 len:p.length=c.u.length
 at_: ∀b,b<c.u.length->PtX c b (p.getD b v_)
theorem ps_snoc{c A k l}(E:A.length=k)(h: ∀b,b<k->PtX c b (A.getD b v_))(N:PtX c k l): ∀b,b<k+1->PtX c b ((A++[l]).getD b v_):=fun b T=>by
 rw[nZ];split
 ·rename_i e;rw[E]at e;subst e;exact N
 exact h b M
theorem end_yes2{c b o}(h:Lst o (nh c b))(A:(bH c b).f=2\/(bH c b).f=3)(E:0<=(bH c b).r):Lst (dI o (bH c b).r) (ptS c b (bH c b).v.length):=Lst.ext (Lst.v h E) fun r=>by unfold ptS;rw[List.drop_length];show _↔endS _ _ _;unfold endS d7;rw[if_pos A,a0b]
theorem end_no2{c b o}(h:Lst o (nh c b))(A: ¬((bH c b).f=2\/(bH c b).f=3)):Lst o (ptS c b (bH c b).v.length):=Lst.ext h fun r=>by unfold ptS;rw[List.drop_length];show _↔endS _ _ _;unfold endS d7;rw[if_neg A];exact⟨.inl,fun h=>h.elim id fun h=>by cases h⟩
def wrS(S:Nat->Prop)(l:List Int)(q r:Nat):Prop:=S r/\(r:Int)∉l.take q
def rdS(S:Nat->Prop)(l:List Int)(q r:Nat):Prop:=S r\/(r:Int)∈l.take q
theorem wr_zero{w S l}(h:Lst w S):Lst w (wrS S l 0):=Lst.ext h fun r=>by unfold wrS;simp
theorem wr_yes{w S l q}(A:q<l.length)(h:Lst w (wrS S l q)):Lst (gN w [l.getD q 0]) (wrS S l (q+1)):=Lst.ext (Lst.del h) fun r=>by unfold wrS;rw[bx A (d:=0),a09,a0b,and_assoc,not_or]
theorem wr_no{w S l q}(N:q<l.length)(hc:im w (l.getD q 0)=false)(h:Lst w (wrS S l q)):Lst w (wrS S l (q+1)):=Lst.ext h fun r=>by
 unfold wrS;rw[bx N (d:=0),a09,a0b,not_or];constructor
 ·rintro⟨A,E⟩;refine⟨A,E,fun e=>?_⟩;have:(r:Int)∈w:=(h.mem r).2 ⟨M,by simpa using⟨A,E⟩⟩;rw[e]at this;rw[ij.2 this]at hc;cases hc
 rintro⟨A,E,_⟩;exact⟨A,E⟩
theorem rd_zero{w S l}(h:Lst w S):Lst w (rdS S l 0):=Lst.ext h fun r=>by unfold rdS;simp
theorem rd_yes{w S l q}(A:q<l.length)(h0:0<=l.getD q 0)(h:Lst w (rdS S l q)):Lst (dI w (l.getD q 0)) (rdS S l (q+1)):=Lst.ext (Lst.v h h0) fun r=>by unfold rdS;rw[bx A (d:=0),a09,a0b,or_assoc]
theorem wr_lt{S:Nat->Prop}{l:List Int}{m:Int}(hs: ∀r,S r->(r:Int)<m){q r:Nat}(h:wrS S l q r):(r:Int)<m:=hs r h.1
theorem rd_lt{S:Nat->Prop}{l:List Int}{m:Int}(hs: ∀r,S r->(r:Int)<m)(A: ∀x∈l,0<=x/\x<m){q r:Nat}(h:rdS S l q r):(r:Int)<m:=by
 rcases h with h|h
 ·exact hs r h
 exact(A _ (a1b h)).2
theorem pt_done{c b i q p w}(hi:i<(bH c b).v.length)(E:(ah ((bH c b).v.getD i v_)).length<=q)(A:(aE ((bH c b).v.getD i v_)).length<=p)(h:Lst w (rdS (wrS (ptS c b (i+1)) (ah ((bH c b).v.getD i v_)) q) (aE ((bH c b).v.getD i v_)) p)):Lst w (ptS c b i):=Lst.ext h fun r=>by unfold rdS wrS ptS;rw[a0h E,a0h A,tr_drop hi];exact or_comm
theorem pset{c b i l x}(T:l.length=(bH c b).v.length+2)(h: ∀j,i<j->j<=(bH c b).v.length->Lst (dw l j) (ptS c b j))(hi:i<=(bH c b).v.length)(N:Lst x (ptS c b i)): ∀j,i<=j->j<=(bH c b).v.length->Lst (dw (l.set i x) j) (ptS c b j):=fun j E A=>by
 rw[cT M];split
 ·rename_i e;subst e;exact N
 rename_i e;exact h j M A
theorem jx{aa ad}(l:List Int)(n:Int)(hs:Hb H F H [] R)(hl:Sr F aa l ad)(hn:in64 n)(hT:TB 37 tabC F)(ha:Asc l)(ap:l.length<=1073741824):kKt ex 141 [(sL aa l.length ad),n] H fun v H'=> ∃(r:Bool),H'=H/\v= .bool r/\r=im l n:=by
 refine aB Tryz.func141 V V (am 1 V (wT 2 [] 4 4 [] [(4,false)] V fun _=>wT 3 [] 8 9 [5,6] [(5,(iI 0)),(6,(l.length:Int))] V fun _=>aj (fun(mm:Nat) f H'=> ∃(lo:Nat) (hi:Nat),H'=H/\aA f [(0,(sL aa l.length ad)),(1,n),(5,(lo:Int)),(6,(hi:Int))]/\mm=hi-lo/\(lo<=hi/\hi<=l.length)/\(∀j,j<lo->l.getD j 0<n)/\(∀j,hi<=j->j<l.length->n<=l.getD j 0)) _ ⟨0,l.length,V,f_,V,M,(by intro j hj;omega),(by intro j Z h2;omega)⟩ ?_));rintro av f3 H ⟨lo,hi,rfl,N,rfl,Z,h2,h3⟩ U;refine au _ N (fun _=>?_);clear N;refine am 2 V (wT 1 [] 10 12 [] [(12,(decide ((lo:Int)<(hi:Int))))] V fun _=>zd 3 5 (fun c5=>?_) fun c5=>?_)
 ·refine wR 2 [] 13 16 [7] [(7,(((lo+hi)/2:Nat):Int))] (vA (vi (n:=(lo:Int)+(hi:Int))) (vA (vA (show(2:Int)≠0 from by decide) (vi (n:=(((lo+hi)/2:Nat):Int)))) trivial)) V fun _=>?_
  obtain⟨aq,T⟩:=Sv.view (SR.sv hl hs);have g8:=fI (T ((lo+hi)/2));refine wrp 1 17 22 [] [(22,(decide ((l.getD ((lo+hi)/2) 0)<n)))] (Ha_ (Sv.ix (j:=(((lo+hi)/2:Nat):Int)) (SR.sv hl hs)) (Hl_ 3 (ql 3 0 (vI (T ((lo+hi)/2))) V V) Hn_)) K_ V fun _=>zd 0 0 (fun a_=>?_) fun a_=>?_
  ·refine wU 2 [] 23 24 [5] [(5,(iI ((((lo+hi)/2:Nat):Int)+1)))] (vi (n:=(((lo+hi)/2:Nat):Int)+1)) V fun _=>?_
   refine U _ _ _ ?_ ⟨((lo+hi)/2)+1,hi,V,f_,V,M,(bs_lo ha M X),X⟩;omega
  refine wT 2 [] 25 25 [6] [(6,(((lo+hi)/2:Nat):Int))] V fun _=>?_
  refine U _ _ _ ?_ ⟨lo,(lo+hi)/2,V,f_,V,M,M,(bs_hi ha X)⟩;omega
 obtain⟨an,A⟩:=Sv.view (SR.sv hl hs);have ar:=fI (A lo);refine wrp 1 26 37 [4] [(4,((decide ((lo:Int)<(l.length:Int)))&&((l.getD lo 0)==n)))] (Ha_ (fun(E:(decide ((lo:Int)<(l.length:Int)))=true)=>(Sv.ix (j:=(lo:Int)) (SR.sv hl hs) (by(try simp only[BS]at E);omega) (by(try simp only[BS]at E);omega))) (bp 8 (fun E=>(ql 3 0 (vI (A lo) (by(try simp only[BS]at E);omega)) V V)) Hn_)) V V fun _=>ak ⟨.inr V,_,V,((decide ((lo:Int)<(l.length:Int)))&&((l.getD lo 0)==n)),V,V,(by exact con_fin ha X Z h2 h3 _ (by simp<;>omega))⟩
theorem cG{A E}(l:List Int)(n:Int)(hs:Hb H F H [] R)(Z:Sr F A l E)(hn:in64 n)(T:TB 37 tabC F)(U:Asc l)(N:l.length<=1073741824):kKt ex 141 [(S_ A l E),n] H fun v H'=>v=(.bool (im l n))/\H'=H:=
 cq (jx ex l n hs Z hn T U N) (by rintro _ _ ⟨_,rfl,rfl,rfl⟩;exact⟨V,V⟩)
theorem without_c{ad ag}(l:List Int)(n:Int)(hs:Hb H F H [] R)(hl:Sr F ad l ag)(hn:in64 n)(hT:TB 37 tabC F)(b5:l.length<=1073741824):kKt ex 142 [(S_ ad l ag),n] H fun v H'=> ∃ar,∃(kr:Nat) (r:List Int),∃p F',F.le F'/\Hb H F' H' [p] R/\v=sL ar r.length kr/\OZ F' ar r kr p/\r=gN l [n]:=by
 refine aB Tryz.func142 V V (am 1 V (wT 2 [] 4 4 [] [(4,N_)] V fun _=>wT 3 [] 1 0 [5] [(5,N_)] V fun _=>wT 2 [] 8 10 [] [(8,(S_ ad l ag)),(9,(l.length:Int)),(10,(iI 0))] V fun _=>?_));have a2:=HS.snoc hs;refine aj (fun(mm:Nat) f H'=> ∃(o:List Int) (i:Nat),∃A,∃(E:Nat),∃N F',F.le F'/\Hb H F' H' [N] R/\OZ F' A o E N/\aA f [(1,n),(5,(S_ A o E)),(8,(S_ ad l ag)),(9,(l.length:Int)),(10,(i:Int))]/\mm=l.length-i/\(i<=l.length)/\(o=gN (l.take i) [n])) _ ⟨([]:List Int),0,none,0,[],_,fR,a2,(OS.nil:OS _ N_ ([]:List Int) []),f_,V,M,m_⟩ ?_;rintro bk f4 H4 ⟨o,i,A,E,N,F4,a_,U,T,ap,rfl,h1,h2⟩ av;refine au _ ap (fun _=>?_);clear ap;replace hl:=hl.mono a_;have n4:o.length<=l.length:=by rw[h2];exact a0e min_len l_
 refine am 1 V (wT 2 [] 11 11 [] [(11,(decide ((i:Int)<(l.length:Int))))] V fun _=>zd 4 5 (fun c7=>?_) fun c7=>?_)
 ·obtain⟨a9,aq⟩:=Sv.view (SR.sv hl U);have g9:=fI (aq i);refine wrp 2 12 13 [7] [(7,(l.getD i 0))] (Ha_ (Sv.ix (j:=(i:Int)) (SR.sv hl U)) (Hl_ 1 (ql 3 0 (vI (aq i)) V V) Hn_)) K_ V fun _=>wT 1 [] 14 16 [] [(16,((l.getD i 0) !=n))] V fun _=>zi 0 2 (fun Z=>?_) fun Z=>?_
  ·try simp only[BS]at Z
   refine ab (wTo 2 0 [] 17 18 [] [(17,(S_ A o E)),(18,(l.getD i 0))] V fun _=>zlo [(l.getD i 0)] U V (RL.cs ⟨V,M⟩ RL.nl) V fun a8 bb bl a5 ax aa=>zao 0 T aa (OS.sv ax aa (i:=1) V) V V V M fun an aw a3 a7 ay a1=>za (sL an (o++[(l.getD i 0)]).length aw) (ae 2 V ?_));refine wU 1 [] 10 10 [21] [(10,(iI ((i:Int)+1)))] (vi (n:=(i:Int)+1)) V fun _=>?_
   refine av _ _ _ ?_ ⟨o++[(l.getD i 0)],i+1,an,aw,a3,_,(a_),(HS.sub a1 (a01 _ _)),ay,f_,V,M,((kj M h2).1 (by rw[con1];exact decide_eq_false X))⟩;omega
  try simp only[BS]at Z
  refine wU 1 [] 10 10 [21] [(10,(iI ((i:Int)+1)))] (vi (n:=(i:Int)+1)) V fun _=>?_
  refine av _ _ _ ?_ ⟨o,i+1,A,E,N,_,(a_),U,T,f_,V,M,((kj M h2).2 (by rw[con1];exact decide_eq_true (by simp_all;done)))⟩;omega
 refine wT 1 [] 4 4 [22] [(4,(S_ A o E))] V fun _=>ak ⟨.inr V,_,V,A,E,o,N,_,(a_),(HS.only U (i:=0) V),V,T,(by rw[h2,a0h M])⟩
theorem dH{ad ai}(l:List Int)(n:Int)(hs:Hb H F H [] R)(hl:Sr F ad l ai)(hn:in64 n)(hT:TB 37 tabC F)(ha:Asc l)(f4:l.length<=1000000):kKt ex 140 [(S_ ad l ai),n] H fun v H'=> ∃ar,∃(kr:Nat) (r:List Int),∃F',F.le F'/\Hb H F' H' [] R/\v=sL ar r.length kr/\Sr F' ar r kr/\r=dI l n:=by
 refine aB Tryz.func140 V V (am 1 V (wT 3 [] 4 4 [] [(4,N_)] V fun _=>wU 1 [(2,.o (.bool (im l n)))] 6 8 [] [(8,(im l n))] (cG ex l n (HS.call hs) hl M hT M M) V fun _=>zi 1 2 (fun c3=>?_) fun c3=>?_))
 ·try simp only[BS]at c3
  have hc:=c3;refine wT 1 [] 4 4 [9] [(4,(S_ ad l ai))] V fun _=>ak ⟨.inr V,_,V,ad,ai,l,_,fR,(HS.forget hs),V,hl,(ins_in ha (by simpa using hc)).symm⟩
 try simp only[BS]at c3
 have hc:=c3;refine wT 3 [] 1 0 [5] [(5,(iI 0))] V fun _=>aj (fun(mm:Nat) f H'=> ∃(k:Nat),H'=H/\aA f [(0,(S_ ad l ai)),(1,n),(5,(k:Int))]/\mm=l.length-k/\(k<=l.length)/\(∀j,j<k->l.getD j 0<n)) _ ⟨0,V,f_,V,M,(by intro j hj;omega)⟩ ?_
 rintro d2 f6 H ⟨k,rfl,aw,rfl,h1,h2⟩ b5;refine au _ aw (fun _=>?_);clear aw;refine am 2 V ?_;obtain⟨dl,ax⟩:=Sv.view (SR.sv hl hs);have g8:=fI (ax k);refine wrp 1 10 21 [] [(21,((decide ((k:Int)<(l.length:Int)))&&(decide ((l.getD k 0)<n))))] (Ha_ (fun(g1:(decide ((k:Int)<(l.length:Int)))=true)=>(Sv.ix (j:=(k:Int)) (SR.sv hl hs) (by(try simp only[BS]at g1);omega) (by(try simp only[BS]at g1);omega))) (bp 8 (fun g1=>(ql 3 0 (vI (ax k) (by(try simp only[BS]at g1);omega)) V V)) Hn_)) V V fun _=>zi 2 5 (fun ag=>?_) fun ag=>?_
 ·try simp only[BS]at ag
  refine wU 2 [] 22 23 [5] [(5,(iI ((k:Int)+1)))] (vi (n:=(k:Int)+1)) V fun _=>?_
  refine b5 _ _ _ ?_ ⟨k+1,V,f_,V,M,(lw h2 M)⟩;omega
 try simp only[BS]at ag
 refine aC V (zld ([]:List Int) hs V RL.nl V fun c7 dn em a1 a4 U=>zfm (S_ ad l ai) (zfm (iI (k:Int)) (eU (id:= .q fun b=>F b≠none) (jd (α:=Int) (j:=k) hl U.log0 V V V (optN M) M) V V (by rintro _ _ _ ⟨_,_,_,hH,_⟩;exact did_q V (SR.q hl)) (kb V) ?_)));rintro _ _ _ ⟨c8,ds,rfl,A,a9⟩ b1 ap;simp only at A;replace A:=A.symm;subst A;have N:=HS.lg U.log0 U ap;generalize ({{a1 with log:=[]} with log:=b1}:Heap)=b8 at N⊢;refine zad 0 a4 N (SR.sv a9 N) V V V s_ (kb V) fun b3 b6 b7 b9 T bl=>?_
 have T:OS F (sL b3 (l.take k).length b6) (l.take k) b7:=T;refine zfm (iI n) (zld [n] bl V (RL.cs ⟨V,M⟩ RL.nl) V fun c9 dt et cc a5 a_=>zad 0 T a_ (OS.sv a5 a_ (i:=1) V) V V V s_ (kb V) fun dd dv ez a2 a7 Z=>zfm (S_ ad l ai) (zfm (iI (k:Int)) (eU (id:= .q fun b=>F b≠none) (rs_cutd (α:=Int) (i:=k) hl Z.log0 V V V (optN M) M) V V (by rintro _ _ _ ⟨_,_,_,hH,_⟩;exact did_q V (SR.q hl)) (⟨.inl V,.inl V,.inr (HS.apq a_ (i:=0) V),.inr trivial,.inr trivial,.inr (HS.apq N (i:=0) V),q_⟩) ?_)));rintro _ _ _ ⟨dk,d1,rfl,E,bb⟩ b2 aq;simp only at E;replace E:=E.symm;subst E;have aa:=HS.lg Z.log0 Z aq;generalize ({{a2 with log:=[]} with log:=b2}:Heap)=ch at aa⊢;refine zad 0 a7 aa (SR.sv bb aa) V V V s_ (kb V) fun av ay e0 ci a8 bt=>fa (sL av (((l.take k)++[n])++(l.drop k)).length ay) V V V (gM (am 1 V ?_))
 obtain⟨c6,a3,bz,bk,c5⟩:=OS.frz a8 bt (i:=0) V;refine ak ⟨.inr V,_,V,av,ay,((l.take k)++[n])++(l.drop k),_,(a3),(HS.forget bz),V,bk,(ins_new (pre_eq h1 h2 M) (fun hh=>absurd (con_at hh.1 hh.2) (by simpa using hc)))⟩
theorem points_c{ap ar}(c:VFnT)(hs:Hb H F H [] R)(l3:in64 c.m)(l4:in64 c.r)(cc:Sr F ap c.u ar)(hT:TB 37 tabC F)(i5:cb c=true)(it: ∀j,(c.u.getD j v_).v.length<=1073741822):kKt ex 115 [(aG [c.m,c.r,(S_ ap c.u ar)])] H fun v H'=> ∃(jo:Option Addr) (js:Nat) (ps:List (List (List Int))) (p:Fp) (F':Fz),F.le F'/\Hb H F' H' [p] R/\v=sL jo ps.length js/\OZ F' jo ps js p/\(PsF c ps):=by
 have vF:=e9 i5;have pG:=vF.nb;have i4:=vF.r;refine aB Tryz.func115 V V (am 1 V (ab (aT (aN hs V V) V V ?_)));rintro _ H2 _ ⟨b1,rfl,hf,_⟩;refine za N_ (ae 2 V (ab (aS 1 0 16 16 [] [(16,(aG [c.m,c.r,(S_ ap c.u ar)]))] (Hr_ 0 0 Hn_) hf V V fun _=>zc (md.blocks_c ex c (HS.call hf) M M cc hT (fun j=>a0e (it j) M)) ?_)));rintro _ H4 ⟨oO,o3,x4,c7,c8,y4,F4,g5,e6,rfl,mI,dl,o1,o0⟩;replace e6:=HS.back hf V e6;refine bK 5 2 18 19 [3,4,15] [(4,(S_ c7 y4 c8))] Hn_ K_ V fun _=>ae 2 V ?_
 have bk:BkF c _ y4:=(by assumption:cb c=true->_) i5;have pF:=bk.ly;refine wT 3 [] 1 0 [5] [(5,N_)] V fun _=>aU 2 20 23 [] [(21,(S_ ap c.u ar)),(22,(c.u.length:Int)),(23,(iI 0))] (Hr_ 1 0 Hn_) e6 V V fun _=>?_
 have jw:=HS.snoc e6;let d1:Fp:=(fP b1 [c.m,c.r,(S_ ap c.u ar)])
 refine aj (fun(mm:Nat) f H'=> ∃(al:List (List (List Int))) (k:Nat) (N:Option Addr) (T:Nat) (ag:Fp) (F':Fz),F4.le F'/\Hb H F' H' [d1,ag] R/\OZ F' N al T ag/\aA f [(4,(S_ c7 y4 c8)),(5,(S_ N al T)),(21,(S_ ap c.u ar)),(22,(c.u.length:Int)),(23,(k:Int))]/\mm=c.u.length-k/\(al.length=k)/\(k<=c.u.length)/\(∀b,b<k->PtX c b (al.getD b v_))) _ ⟨([]:List (List (List Int))),0,none,0,[],_,fR,jw,(OS.nil:OS _ N_ ([]:List (List (List Int))) []),f_,V,m_,M,(by intro b hb;omega)⟩ ?_;rintro o4 f8 H8 ⟨al,k,N,T,ag,F8,dt,fd,a4,hI,rfl,e1,hk,e2⟩ j1;refine au _ hI (fun _=>?_);clear hI;replace hT:=(hT.mono g5).mono dt;replace cc:=(cc.mono g5).mono dt;replace dl:=dl.mono dt;refine am 1 V (wT 2 [] 24 24 [] [(24,(decide ((k:Int)<(c.u.length:Int))))] V fun _=>zd 4 5 (fun iv=>?_) fun iv=>?_)
 ·refine ab ?_;obtain⟨c9,hj⟩:=Sv.view (SR.sv cc fd);obtain⟨kk,kl,kn,ko,an⟩:=BlkT.fx (hj k);refine bK 3 0 25 27 [] [(25,(k:Int)),(27,(aG [(sL (cA (c9 k) 0) (c.u.getD k v_).v.length (cK (c9 k) 0)),(c.u.getD k v_).f,(c.u.getD k v_).r,(c.u.getD k v_).t,(c.u.getD k v_).e]))] (Ha_ (Sv.ix (j:=(k:Int)) (SR.sv cc fd)) (Hl_ 2 (qn 82 0 5 (BlkT.vw (hj k)) V V V V) Hn_)) K_ V fun _=>zn fd V fun dn oc h3=>sgo 2 4 1 0 [6] [(6,(k:Int))] (Hr_ 5 2 Hn_) h3 V V fun l1 oh he=>ae 2 V ?_
  have ao:k<c.u.length:=M
  have pD:=it k;have pH:(List.replicate ((c.u.getD k v_).v.length+2) ([]:List Int)).length=(c.u.getD k v_).v.length+2:=a0K;have jp:((c.u.getD k v_).f=2\/(c.u.getD k v_).f=3)->0<=(c.u.getD k v_).r/\(c.u.getD k v_).r<c.r:=vF.f k ao;have pK:=Lst.len (bk.hy k ao) i4.1 (fun r h=>jj vF h);have pJ:=(bk.hy k ao).asc;refine ab (aS 4 0 28 31 [] [(31,(iI (((c.u.getD k v_).v.length:Int)+2)))] (Hr_ 1 2 (Ha_ (vi (n:=((c.u.getD k v_).v.length:Int)+2)) Hn_)) he V V fun _=>aT (cS ([]:(List Int)) he V V V V V V V V V ⟨none,0,V,SR.nil⟩ M M) V V ?_);rintro _ ol j2 ⟨a5,a7,rfl,dk,ci,_⟩;have dk:OS F8 (sL a5 (List.replicate ((c.u.getD k v_).v.length+2) ([]:(List Int))).length a7) (List.replicate ((c.u.getD k v_).v.length+2) ([]:(List Int))) j2:=dk;refine za (sL a5 (List.replicate ((c.u.getD k v_).v.length+2) ([]:(List Int))).length a7) (ae 2 V ?_);obtain⟨aq,hl⟩:=Sv.view (SR.sv dl ci);have hz:=fL (hl k);refine wrp 2 33 36 [9] [(9,(sL (cA (aq k) 0) (y4.getD k v_).length (cK (aq k) 0)))] (Ha_ (Sv.ix (j:=(k:Int)) (SR.sv dl ci)) (Hl_ 3 (ql 22 0 (vL (hl k)) V V) Hn_)) K_ V fun _=>ab (aS 7 0 37 43 [] [(42,(sL (cA (aq k) 0) (y4.getD k v_).length (cK (aq k) 0))),(43,(.pointer (some ⟨sB (sL a5 (List.replicate ((c.u.getD k v_).v.length+2) ([]:(List Int))).length a7),sO (sL a5 (List.replicate ((c.u.getD k v_).v.length+2) ([]:(List Int))).length a7)+((c.u.getD k v_).v.length+1) *Rp.sz (List Int),none⟩)))] (Hr_ 2 2 (Ha_ (vi (n:=((c.u.getD k v_).v.length:Int)+1)) (Ha_ (Sv.ix (j:=((c.u.getD k v_).v.length:Int)+1) (OS.sv dk ci (i:=3) V)) Hn_))) ci V V fun _=>cL (bW (α:=(List Int)) (j:=(c.u.getD k v_).v.length+1) (off:=0) (q:=3) (y4.getD k v_) dk ci V V V V V V V V (aO (x:=v_) M) V (by rintro cs ⟨_,_,rfl,_⟩;exact⟨a08 V,⟨(cA (aq k) 0),(cK (aq k) 0),V,hz⟩⟩)) V ?_)
  rintro _ oo ka ⟨ch,bz,_⟩;have k7:=OS.len' ch;let fi:Fp:=(fP dn [(sL (cA (c9 k) 0) (c.u.getD k v_).v.length (cK (c9 k) 0)),(c.u.getD k v_).f,(c.u.getD k v_).r,(c.u.getD k v_).t,(c.u.getD k v_).e])
  refine ae 3 V (aU 1 44 51 [] [(51,(((c.u.getD k v_).f==2)||((c.u.getD k v_).f==3)))] (Hr_ 1 2 (bp 5 (fun _=>(ql 3 1 (j_ bz V) V V)) Hn_)) bz V V fun _=>ba (fun f H'=> ∃(s1:List Int),∃av,∃(ay:Nat),∃F',F8.le F'/\Hb H F' H' [d1,ag,fi,ka] R/\Sr F' av s1 ay/\aA f [(4,(S_ c7 y4 c8)),(5,(S_ N al T)),(7,(pT dn 0)),(8,(sL a5 (List.replicate ((c.u.getD k v_).v.length+2) ([]:(List Int))).length a7)),(9,(S_ av s1 ay)),(21,(S_ ap c.u ar)),(22,(c.u.length:Int)),(23,(k:Int))]/\(Lst s1 (ptS c k (c.u.getD k v_).v.length))) (fun ht=>?_) ?_)
  ·refine zi 0 0 (fun ds=>?_) fun ds=>?_
   ·try simp only[BS]at ds
    have dj:=ds;have pE:=jp dj;refine ab (aS 3 0 52 54 [] [(52,(sL (cA (aq k) 0) (y4.getD k v_).length (cK (aq k) 0))),(54,(c.u.getD k v_).r)] (Hr_ 2 2 Hn_) bz V V fun _=>zc (dH ex (y4.getD k v_) (c.u.getD k v_).r (HS.call bz) hz M hT M M) ?_);rintro _ ox ⟨fj,hu,o7,n2,hP,ez,rfl,hC,rfl⟩;replace ez:=HS.back bz V ez;refine za (sL fj (dI (y4.getD k v_) (c.u.getD k v_).r).length hu) (ae 0 V ?_);exact ht _ _ ⟨dI (y4.getD k v_) (c.u.getD k v_).r,fj,hu,_,(hP),ez,hC,f_,(end_yes2 (bk.hy k ao) dj (jp dj).1)⟩
   try simp only[BS]at ds
   have dj:=ds;exact ht _ _ ⟨(y4.getD k v_),(cA (aq k) 0),(cK (aq k) 0),_,fR,bz,hz,f_,(end_no2 (bk.hy k ao) (show ¬((c.u.getD k v_).f=2\/(c.u.getD k v_).f=3) by omega))⟩
  skip;rintro oP ow ⟨s1,av,ay,ii,b6,et,dv,g7,hJ⟩;refine au _ g7 (fun _=>?_);clear g7;replace ch:=ch.mono b6;refine am 2 V (ab (aS 6 0 56 61 [] [(60,(S_ av s1 ay)),(61,(.pointer (some ⟨sB (sL a5 (List.replicate ((c.u.getD k v_).v.length+2) ([]:(List Int))).length a7),sO (sL a5 (List.replicate ((c.u.getD k v_).v.length+2) ([]:(List Int))).length a7)+(c.u.getD k v_).v.length *Rp.sz (List Int),none⟩)))] (Hr_ 2 2 (Ha_ (Sv.ix (j:=((c.u.getD k v_).v.length:Int)) (OS.sv ch et (i:=3) V)) Hn_)) et V V fun _=>cL (bW (α:=(List Int)) (j:=(c.u.getD k v_).v.length) (off:=0) (q:=3) s1 ch et V V V V V V V V (aO (x:=v_) M) V (by rintro cs ⟨_,_,rfl,_⟩;exact⟨a08 V,⟨av,ay,V,dv⟩⟩)) V ?_));rintro _ oy kc ⟨d2,hg,_⟩;have k8:=OS.len' d2;refine ae 3 V (aU 2 62 65 [10] [(10,(iI (((c.u.getD k v_).v.length:Int)-1)))] (Hr_ 1 2 (Ha_ (vi (n:=((c.u.getD k v_).v.length:Int)-1)) Hn_)) hg V V fun _=>aj (fun(mm:Nat) f H'=> ∃(sw:List Int) (pl:List (List Int)) (iz:Int),∃bb,∃(bl:Nat),∃A,∃(E:Nat),∃a2 F',ii.le F'/\Hb H F' H' [d1,ag,fi,a2] R/\Sr F' bb sw bl/\OZ F' A pl E a2/\aA f [(4,(S_ c7 y4 c8)),(5,(S_ N al T)),(7,(pT dn 0)),(8,(S_ A pl E)),(9,(S_ bb sw bl)),(10,iz),(21,(S_ ap c.u ar)),(22,(c.u.length:Int)),(23,(k:Int))]/\mm=(iz+1).toNat/\(pl.length=(c.u.getD k v_).v.length+2)/\(-1<=iz/\iz<((c.u.getD k v_).v.length:Int))/\(∀j,(iz+1).toNat<=j->j<=(c.u.getD k v_).v.length->Lst (dw pl j) (ptS c k j))/\(Lst (dw pl ((c.u.getD k v_).v.length+1)) (nh c k))/\(Lst sw (ptS c k (iz+1).toNat))) _ ⟨s1,((List.replicate ((c.u.getD k v_).v.length+2) ([]:(List Int))).set ((c.u.getD k v_).v.length+1) (y4.getD k v_)).set (c.u.getD k v_).v.length s1,((c.u.getD k v_).v.length:Int)-1,av,ay,a5,a7,kc,_,fR,hg,dv,(OS.norm d2),(agC V (agC V (agC V (agC (show Value.slice a5 (List.replicate ((c.u.getD k v_).v.length+2) ([]:(List Int))).length a7=Value.slice a5 (((List.replicate ((c.u.getD k v_).v.length+2) ([]:(List Int))).set ((c.u.getD k v_).v.length+1) (y4.getD k v_)).set (c.u.getD k v_).v.length s1).length a7 by rw[OS.len' d2]) f_)))),V,o_,M,(fun j h1 h2=>by(rw[show j=(c.u.getD k v_).v.length by omega,cT o_,if_pos rfl];exact hJ)),(by rw[cT o_,if_neg M,cT o_,if_pos rfl];exact bk.hy k ao),(by rw[show((((c.u.getD k v_).v.length:Nat):Int)-1+1).toNat=(c.u.getD k v_).v.length by omega];exact hJ)⟩ ?_);rintro nm oQ oz ⟨sw,pl,iz,bb,bl,A,E,a2,n3,b7,b2,co,Z,g8,rfl,f1,f2,f3,f4,f5⟩ h8;refine au _ g8 (fun _=>?_);clear g8;replace hT:=(hT.mono b6).mono b7;replace a4:=(a4.mono b6).mono b7;replace an:=(an.mono b6).mono b7;refine am 2 V (wT 1 [] 66 67 [] [(67,(decide ((0:Int)<=iz)))] V fun _=>zd 5 4 (fun i1=>?_) fun i1=>?_)
  ·have jq:iz.toNat<(c.u.getD k v_).v.length:=M
   have ja:(∀x∈aE ((c.u.getD k v_).v.getD iz.toNat v_),0<=x/\x<c.r)/\(∀x∈ah ((c.u.getD k v_).v.getD iz.toNat v_),0<=x/\x<c.r)/\((c.u.getD k v_).v.getD iz.toNat v_).args.length<=6:=bD (vF.v k ao iz.toNat jq);have m0:=ja.2.2;have pI:=dM (v:=((c.u.getD k v_).v.getD iz.toNat v_));have mx:=eD (v:=((c.u.getD k v_).v.getD iz.toNat v_));refine ab ?_;obtain⟨f9,hm⟩:=Sv.view (SR.sv an b2);obtain⟨kp,kr,kx,ky,kz,hF⟩:=VInT.fx (hm iz.toNat);refine aS 5 0 70 74 [] [(74,(aG [((c.u.getD k v_).v.getD iz.toNat v_).i.op,((c.u.getD k v_).v.getD iz.toNat v_).i.a,((c.u.getD k v_).v.getD iz.toNat v_).i.b,((c.u.getD k v_).v.getD iz.toNat v_).i.c,((c.u.getD k v_).v.getD iz.toNat v_).i.n,(sL (cA (f9 iz.toNat) 5) ((c.u.getD k v_).v.getD iz.toNat v_).args.length (cK (f9 iz.toNat) 5))]))] (Hr_ 1 2 (Ha_ (Sv.ix (j:=iz) (SR.sv an b2)) (Hl_ 4 (qn 88 0 6 (VInT.vw (hm iz.toNat)) V V V V) Hn_))) b2 V V fun _=>zc (ma.iy ex ((c.u.getD k v_).v.getD iz.toNat v_) (HS.call b2) M M M M M hF hT) ?_
   rintro _ oD ⟨hM,ib,o8,hL,ik,b8,e0,rfl,b4,rfl⟩;replace e0:=HS.back b2 V e0;replace co:=co.mono b8;refine bK 2 6 76 77 [] [(76,((ah ((c.u.getD k v_).v.getD iz.toNat v_)).length:Int)),(77,(iI 0))] Hn_ K_ V fun _=>ae 2 V (aj (fun(mm:Nat) f H'=> ∃(w1:List Int) (q:Nat),∃aw,∃(a1:Nat),∃F',ik.le F'/\Hb H F' H' [d1,ag,fi,a2,hL] R/\Sr F' aw w1 a1/\aA f [(4,(S_ c7 y4 c8)),(5,(S_ N al T)),(7,(pT dn 0)),(8,(S_ A pl E)),(9,(S_ aw w1 a1)),(10,iz),(21,(S_ ap c.u ar)),(22,(c.u.length:Int)),(23,(k:Int)),(75,(sL hM (ah ((c.u.getD k v_).v.getD iz.toNat v_)).length ib)),(76,((ah ((c.u.getD k v_).v.getD iz.toNat v_)).length:Int)),(77,(q:Int))]/\mm=(ah ((c.u.getD k v_).v.getD iz.toNat v_)).length-q/\(Lst w1 (wrS (ptS c k (iz.toNat+1)) (ah ((c.u.getD k v_).v.getD iz.toNat v_)) q))/\(q<=(ah ((c.u.getD k v_).v.getD iz.toNat v_)).length)) _ ⟨sw,0,bb,bl,_,fR,e0,co,f_,V,(wr_zero (by rw[show iz.toNat+1=(iz+1).toNat by omega];exact f5)),M⟩ ?_)
   rintro nx oR oE ⟨w1,q,aw,a1,n4,a8,U,ax,g9,rfl,g1,g2⟩ hr;refine au _ g9 (fun _=>?_);clear g9;replace hT:=(hT.mono b8).mono a8;replace b4:=b4.mono a8;replace Z:=(Z.mono b8).mono a8;replace an:=(an.mono b8).mono a8;have oV:=Lst.len g1 i4.1 (fun r h=>wr_lt (fun r h=>iH vF ao h) h);have oU:=g1.asc;refine am 1 V (wT 2 [] 78 78 [] [(78,(decide ((q:Int)<((ah ((c.u.getD k v_).v.getD iz.toNat v_)).length:Int))))] V fun _=>zd 4 6 (fun i2=>?_) fun i2=>?_)
   ·obtain⟨lr,hn⟩:=Sv.view (OS.sv b4 U (i:=4) V);have oY:=fI (hn q);refine wrp 2 79 80 [12] [(12,((ah ((c.u.getD k v_).v.getD iz.toNat v_)).getD q 0))] (Ha_ (Sv.ix (j:=(q:Int)) (OS.sv b4 U (i:=4) V)) (Hl_ 1 (ql 3 0 (vI (hn q)) V V) Hn_)) K_ V fun _=>wU 1 [(2,.o (.bool (im w1 ((ah ((c.u.getD k v_).v.getD iz.toNat v_)).getD q 0))))] 81 83 [] [(83,(im w1 ((ah ((c.u.getD k v_).v.getD iz.toNat v_)).getD q 0)))] (cG ex w1 ((ah ((c.u.getD k v_).v.getD iz.toNat v_)).getD q 0) (HS.call U) ax M hT M M) V fun _=>zi 0 2 (fun f7=>?_) fun f7=>?_
    ·try simp only[BS]at f7
     refine ab (wTo 2 0 [] 84 85 [] [(84,(S_ aw w1 a1)),(85,((ah ((c.u.getD k v_).v.getD iz.toNat v_)).getD q 0))] V fun _=>zc (without_c ex w1 ((ah ((c.u.getD k v_).v.getD iz.toNat v_)).getD q 0) (HS.call U) ax M hT M) ?_);rintro _ oF ⟨f0,hv,o9,o5,n5,hQ,e3,rfl,hD,rfl⟩;replace e3:=HS.back U V e3;refine za (sL f0 (gN w1 [((ah ((c.u.getD k v_).v.getD iz.toNat v_)).getD q 0)]).length hv) (ae 2 V (wU 1 [] 77 77 [87] [(77,(iI ((q:Int)+1)))] (vi (n:=(q:Int)+1)) V fun _=>?_));obtain⟨n6,hR,h4,hX,l9⟩:=OS.frz hD e3 (i:=5) V;refine hr _ _ _ ?_ ⟨gN w1 [((ah ((c.u.getD k v_).v.getD iz.toNat v_)).getD q 0)],q+1,f0,hv,_,(fT (fT (a8) hQ) hR),(HS.sub h4 (a01 _ _)),hX,f_,V,(wr_yes M g1),M⟩;omega
    try simp only[BS]at f7
    refine wU 1 [] 77 77 [87] [(77,(iI ((q:Int)+1)))] (vi (n:=(q:Int)+1)) V fun _=>?_
    refine hr _ _ _ ?_ ⟨w1,q+1,aw,a1,_,(a8),U,ax,f_,V,(wr_no M (by simp_all;done) g1),M⟩;omega
   refine ab ?_;obtain⟨go,hp⟩:=Sv.view (SR.sv an U);obtain⟨k0,k3,k4,k5,k6,hG⟩:=VInT.fx (hp iz.toNat);refine aS 5 0 88 92 [] [(92,(aG [((c.u.getD k v_).v.getD iz.toNat v_).i.op,((c.u.getD k v_).v.getD iz.toNat v_).i.a,((c.u.getD k v_).v.getD iz.toNat v_).i.b,((c.u.getD k v_).v.getD iz.toNat v_).i.c,((c.u.getD k v_).v.getD iz.toNat v_).i.n,(sL (cA (go iz.toNat) 5) ((c.u.getD k v_).v.getD iz.toNat v_).args.length (cK (go iz.toNat) 5))]))] (Hr_ 1 2 (Ha_ (Sv.ix (j:=iz) (SR.sv an U)) (Hl_ 4 (qn 88 0 6 (VInT.vw (hp iz.toNat)) V V V V) Hn_))) U V V fun _=>zc (ma.np ex ((c.u.getD k v_).v.getD iz.toNat v_) (HS.call U) M M M M M hG hT M) ?_
   rintro _ oG ⟨hO,ih,pc,kd,il,dd,e4,rfl,b5,rfl⟩;replace e4:=HS.back U V e4;replace ax:=ax.mono dd;refine bK 2 6 94 95 [] [(94,((aE ((c.u.getD k v_).v.getD iz.toNat v_)).length:Int)),(95,(iI 0))] Hn_ K_ V fun _=>ae 2 V (aj (fun(mm:Nat) f H'=> ∃(w2:List Int) (p:Nat),∃a_,∃(aa:Nat),∃F',il.le F'/\Hb H F' H' [d1,ag,fi,a2,hL,kd] R/\Sr F' a_ w2 aa/\aA f [(4,(S_ c7 y4 c8)),(5,(S_ N al T)),(7,(pT dn 0)),(8,(S_ A pl E)),(9,(S_ a_ w2 aa)),(10,iz),(21,(S_ ap c.u ar)),(22,(c.u.length:Int)),(23,(k:Int)),(93,(sL hO (aE ((c.u.getD k v_).v.getD iz.toNat v_)).length ih)),(94,((aE ((c.u.getD k v_).v.getD iz.toNat v_)).length:Int)),(95,(p:Int))]/\mm=(aE ((c.u.getD k v_).v.getD iz.toNat v_)).length-p/\(Lst w2 (rdS (wrS (ptS c k (iz.toNat+1)) (ah ((c.u.getD k v_).v.getD iz.toNat v_)) q) (aE ((c.u.getD k v_).v.getD iz.toNat v_)) p))/\(p<=(aE ((c.u.getD k v_).v.getD iz.toNat v_)).length)) _ ⟨w1,0,aw,a1,_,fR,e4,ax,f_,V,(rd_zero g1),M⟩ ?_)
   rintro n1 oT oH ⟨w2,p,a_,aa,n7,b9,b3,c5,ha,rfl,g3,g4⟩ h9;refine au _ ha (fun _=>?_);clear ha;replace hT:=(hT.mono dd).mono b9;replace b5:=b5.mono b9;replace Z:=(Z.mono dd).mono b9;have oX:=Lst.len g3 i4.1 (fun r h=>rd_lt (fun r h=>wr_lt (fun r h=>iH vF ao h) h) ja.1 h);have oW:=g3.asc;refine am 1 V (wT 2 [] 96 96 [] [(96,(decide ((p:Int)<((aE ((c.u.getD k v_).v.getD iz.toNat v_)).length:Int))))] V fun _=>zd 4 4 (fun i3=>?_) fun i3=>?_)
   ·obtain⟨lv,hq⟩:=Sv.view (OS.sv b5 b3 (i:=5) V);have oZ:=fI (hq p);refine wrp 1 97 98 [14] [(14,((aE ((c.u.getD k v_).v.getD iz.toNat v_)).getD p 0))] (Ha_ (Sv.ix (j:=(p:Int)) (OS.sv b5 b3 (i:=5) V)) (Hl_ 1 (ql 3 0 (vI (hq p)) V V) Hn_)) K_ V fun _=>ab (wTo 2 0 [] 99 100 [] [(99,(S_ a_ w2 aa)),(100,((aE ((c.u.getD k v_).v.getD iz.toNat v_)).getD p 0))] V fun _=>zc (dH ex w2 ((aE ((c.u.getD k v_).v.getD iz.toNat v_)).getD p 0) (HS.call b3) c5 M hT M M) ?_)
    rintro _ oI ⟨f6,hw,pd,oa,hS,e5,rfl,hE,rfl⟩;replace e5:=HS.back b3 V e5;refine za (sL f6 (dI w2 ((aE ((c.u.getD k v_).v.getD iz.toNat v_)).getD p 0)).length hw) (ae 2 V (wU 1 [] 95 95 [102] [(95,(iI ((p:Int)+1)))] (vi (n:=(p:Int)+1)) V fun _=>?_));refine h9 _ _ _ ?_ ⟨dI w2 ((aE ((c.u.getD k v_).v.getD iz.toNat v_)).getD p 0),p+1,f6,hw,_,(fT (b9) hS),e5,hE,f_,V,(rd_yes M (dm ja.1 M).1 g3),M⟩;omega
   have c6:Lst w2 (ptS c k iz.toNat):=pt_done jq (show(ah ((c.u.getD k v_).v.getD iz.toNat v_)).length<=q by omega) (show(aE ((c.u.getD k v_).v.getD iz.toNat v_)).length<=p by omega) g3;refine ab (bK 4 0 103 106 [] [(105,(S_ a_ w2 aa)),(106,(.pointer (some ⟨sB (S_ A pl E),sO (S_ A pl E)+iz.toNat *Rp.sz (List Int),none⟩)))] (Ha_ (Sv.ix (j:=iz) (OS.sv Z b3 (i:=3) V)) Hn_) K_ V fun _=>cL (bW (α:=(List Int)) (j:=iz.toNat) (off:=0) (q:=3) w2 Z b3 V V V V V V V V (aO (x:=v_) M) V (by rintro cs ⟨_,_,rfl,_⟩;exact⟨a08 V,⟨a_,aa,V,c5⟩⟩)) V ?_);rintro _ oJ kg ⟨em,h5,_⟩;have k9:=OS.len' em;refine ae 2 V (wU 1 [] 68 69 [10] [(10,(iI (iz-1)))] (vi (n:=iz-1)) V fun _=>?_);refine h8 _ _ _ ?_ ⟨w2,pl.set iz.toNat w2,iz-1,a_,aa,A,E,kg,_,(fT (fT (fT (fT (b7) b8) a8) dd) b9),(HS.sub h5 (a01 _ _)),c5,(OS.norm em),(agC V (agC V (agC V (agC (show Value.slice A pl.length E=Value.slice A (pl.set iz.toNat w2).length E by rw[OS.len' em]) f_)))),V,(by rw[a0f];exact f1),M,(by rw[show(iz-1+1).toNat=iz.toNat by omega];exact pset f1 (fun j h1 h2=>f3 j (show(iz+1).toNat<=j by omega) h2) (show iz.toNat<=(c.u.getD k v_).v.length by omega) c6),(by rw[cT (by rw[f1];omega),if_neg M];exact f4),(by rw[show(iz-1+1).toNat=iz.toNat by omega];exact c6)⟩;omega
  refine ab (wTo 2 0 [] 107 108 [] [(107,(S_ N al T)),(108,(S_ A pl E))] V fun _=>?_);obtain⟨ob,g6,h6,hY,mk⟩:=OS.frz Z b2 (i:=3) V;replace a4:=a4.mono g6;refine zlo ([pl]:List (List (List Int))) h6 V (RL.cs ⟨A,E,V,hY⟩ RL.nl) V fun oM o2 o6 oK hV hh=>zao 1 a4 hh (OS.sv hV hh (i:=4) V) V V V M fun hH hK ki oL hW h7=>za (sL hH (al++([pl]:List (List (List Int)))).length hK) (ae 2 V (wU 1 [] 23 23 [111] [(23,(iI ((k:Int)+1)))] (vi (n:=(k:Int)+1)) V fun _=>?_))
  refine j1 _ _ _ ?_ ⟨al++([pl]:List (List (List Int))),k+1,hH,hK,ki,_,(fT (fT (fT (dt) b6) b7) g6),(HS.sub h7 (a01 _ _)),hW,f_,V,l_,M,(ps_snoc e1 e2 ⟨f1,fun i hi=>f3 i M hi,f4⟩)⟩;omega
 refine wT 1 [] 2 2 [112] [(2,(S_ N al T))] V fun _=>ak ⟨.inr V,_,V,N,T,al,ag,_,(fT (g5) dt),(HS.only fd (i:=1) V),V,a4,(⟨M,fun b hb=>e2 b M⟩)⟩
end na
open na
namespace nb
variable (ex:FuncId) {F:Fz} {H:Heap} {R:List Fp}
abbrev lX(c:VFnT)(b i:Nat):VInT:=(bH c b).v.getD i v_
def eok(c:VFnT)(b i:Nat)(a x:Int):Prop:=x≠a/\¬((lX c b i).i.op=10/\x=(lX c b i).i.b)
def edg(c:VFnT)(b i a x:Nat):Prop:=(a:Int)∈ah (lX c b i)/\ptS c b (i+1) x/\eok c b i a x
def E0(c:VFnT)(k a x:Nat):Prop:= ∃b i,b<k/\i<(bH c b).v.length/\edg c b i a x
def E1(c:VFnT)(k n a x:Nat):Prop:=E0 c k a x\/∃i,i<n/\edg c k i a x
def E2(c:VFnT)(k n q a x:Nat):Prop:=E1 c k n a x\/((a:Int)∈(ah (lX c k n)).take q/\ptS c k (n+1) x/\eok c k n a x)
def E3(c:VFnT)(k n q:Nat)(l:List Int)(p a x:Nat):Prop:=E2 c k n q a x\/((a:Int)=(ah (lX c k n)).getD q 0/\(x:Int)∈l.take p/\eok c k n a x)
def lW(c:VFnT)(a x:Nat):Prop:=E0 c c.u.length a x
def Sy(R:Nat->Nat->Prop)(r y:Nat):Prop:=R r y\/R y r
theorem Sy.iff{R A}(h: ∀a x,R a x↔A a x)(r y:Nat):Sy R r y↔Sy A r y:=or_congr (h r y) (h y r)
structure RwF(c:VFnT)(rl:List (List U64))(R:Nat->Nat->Prop):Prop where
 len:rl.length=c.r.toNat
 row: ∀r,r<c.r.toNat->(rl.getD r v_).length=wds c
 bit: ∀r,r<c.r.toNat->∀y,bI rl r y↔Sy R r y
theorem RwF.iff{c E R A}(h:RwF c E R)(k: ∀a x,R a x↔A a x):RwF c E A:=⟨h.len,h.row,fun r N y=>(h.bit r N y).trans (Sy.iff k r y)⟩
theorem rw_zero{c A k}(E:A.length=c.r.toNat)(T:c.r.toNat<=k)(h: ∀j,j<k->A.getD j v_=List.replicate (wds c) ⟨0⟩):RwF c A (E0 c 0):=by
 refine⟨E,fun r N=>by rw[h r M,a0K],fun r N y=>?_⟩;unfold bI;rw[h r M,bit_rep];constructor
 ·intro h;cases h
 rintro(⟨b,_,h,_⟩|⟨b,_,h,_⟩)<;>exact absurd h (a0D _)
theorem rw_e0{c T k n}(h:RwF c T (E1 c k n))(U:(bH c k).v.length=n):RwF c T (E0 c (k+1)):=h.iff fun a x=>by
 unfold E1 E0;constructor
 ·rintro(⟨b,i,E,A⟩|⟨i,E,A⟩)
  ·exact⟨b,i,M,A⟩
  exact⟨k,i,a1u _,M,A⟩
 rintro⟨b,i,E,A,N⟩;rcases a0k b k with hb|hb
 ·exact .inl ⟨b,i,hb,A,N⟩
 have:b=k:=M
 subst this;exact .inr ⟨i,M,N⟩
theorem rw_e1{c A k}(h:RwF c A (E0 c k)):RwF c A (E1 c k 0):=h.iff fun a x=>⟨.inl,fun h=>h.elim id fun⟨i,h,_⟩=>absurd h (a0D _)⟩
theorem rw_e1s{c N k n q}(h:RwF c N (E2 c k n q))(T:(ah (lX c k n)).length<=q):RwF c N (E1 c k (n+1)):=h.iff fun a x=>by
 unfold E2 E1;rw[a0h T];constructor
 ·rintro((h|⟨i,E,A⟩)|h)
  ·exact .inl h
  ·exact .inr ⟨i,M,A⟩
  exact .inr ⟨n,a1u _,h⟩
 rintro(h|⟨i,E,A⟩)
 ·exact .inl (.inl h)
 rcases a0k i n with hi|hi
 ·exact .inl (.inr ⟨i,hi,A⟩)
 have:i=n:=M
 subst this;exact .inr A
theorem rw_e2{c A k n}(h:RwF c A (E1 c k n)):RwF c A (E2 c k n 0):=h.iff fun a x=>⟨.inl,fun h=>h.elim id fun h=>by simp at h⟩
theorem rw_e2s{c T k n q p l}(U:Lst l (ptS c k (n+1)))(h:RwF c T (E3 c k n q l p))(hq:q<(ah (lX c k n)).length)(Z:l.length<=p):RwF c T (E2 c k n (q+1)):=h.iff fun a x=>by
 unfold E3 E2;rw[a0h Z,bx hq (d:=0),a09,a0b,U.mem];have e:((x:Int)).toNat=x:=M
 rw[e];constructor
 ·rintro((h|⟨A,E,N⟩)|⟨A,⟨_,E⟩,N⟩)
  ·exact .inl h
  ·exact .inr ⟨.inl A,E,N⟩
  exact .inr ⟨.inr A,E,N⟩
 rintro(h|⟨A|A,E,N⟩)
 ·exact .inl (.inl h)
 ·exact .inl (.inr ⟨A,E,N⟩)
 exact .inr ⟨A,⟨M,E⟩,N⟩
theorem rw_e3{c A k n q l}(h:RwF c A (E2 c k n q)):RwF c A (E3 c k n q l 0):=h.iff fun a x=>⟨.inl,fun h=>h.elim id fun h=>by simp at h⟩
theorem jv{c k n q p l}(T:p<l.length)(a x:Nat):E3 c k n q l (p+1) a x↔(E3 c k n q l p a x\/((a:Int)=(ah (lX c k n)).getD q 0/\(x:Int)=l.getD p 0/\eok c k n a x)):=by
 unfold E3;rw[bx T (d:=0),a09,a0b];constructor
 ·rintro(h|⟨E,A|A,N⟩)
  ·exact .inl (.inl h)
  ·exact .inl (.inr ⟨E,A,N⟩)
  exact .inr ⟨E,A,N⟩
 rintro((h|⟨E,A,N⟩)|⟨E,A,N⟩)
 ·exact .inl h
 ·exact .inr ⟨E,.inl A,N⟩
 exact .inr ⟨E,.inr A,N⟩
theorem rw_no{c T k n q p l}(Z:p<l.length)(h:RwF c T (E3 c k n q l p))(U: ¬eok c k n ((ah (lX c k n)).getD q 0) (l.getD p 0)):RwF c T (E3 c k n q l (p+1)):=h.iff fun a x=>by rw[jv Z];exact⟨.inl,fun h=>h.elim id fun⟨E,N,A⟩=>absurd (by rw[E,N]at A;exact A) U⟩
structure Con(rl rl':List (List U64))(a x:Int):Prop where
 len:rl'.length=rl.length
 row: ∀r,(rl'.getD r v_).length=(rl.getD r v_).length
 bit: ∀r y,bI rl' r y↔(bI rl r y\/(r=a.toNat/\y=x.toNat)\/(r=x.toNat/\y=a.toNat))
theorem eok_of{c k n}{a x:Int}(h:eok c k n a x)(A:0<=a)(E:0<=x):eok c k n ((a.toNat:Nat):Int) ((x.toNat:Nat):Int):=by rwa [a10 A,a10 E]
theorem rw_yes{c rl N k n q p l}(hp:p<l.length)(h:RwF c rl (E3 c k n q l p))(hc:Con rl N ((ah (lX c k n)).getD q 0) (l.getD p 0))(U:0<=(ah (lX c k n)).getD q 0)(hx:0<=l.getD p 0)(Z:eok c k n ((ah (lX c k n)).getD q 0) (l.getD p 0)):RwF c N (E3 c k n q l (p+1)):=by
 refine⟨hc.len.trans h.len,fun r T=>(hc.row r).trans (h.row r T),fun r T y=>?_⟩;rw[hc.bit,h.bit r T];unfold Sy;rw[jv hp,jv hp];constructor
 ·rintro((A|A)|⟨A,E⟩|⟨A,E⟩)
  ·exact .inl (.inl A)
  ·exact .inr (.inl A)
  ·subst A E;exact .inl (.inr ⟨M,M,eok_of Z U hx⟩)
  subst A E;exact .inr (.inr ⟨M,M,eok_of Z U hx⟩)
 rintro((A|⟨A,E,_⟩)|(A|⟨A,E,_⟩))
 ·exact .inl (.inl A)
 ·exact .inr (.inl ⟨M,M⟩)
 ·exact .inl (.inr A)
 exact .inr (.inr ⟨M,M⟩)
theorem con_two{rl}{a b:Int}{A E}(ha:a.toNat<rl.length)(hb:b.toNat<rl.length)(ad:a.toNat≠b.toNat)(l1:A.length=(rl.getD a.toNat v_).length)(l2:E.length=((rl.set a.toNat A).getD b.toNat v_).length)
  (h1: ∀i,aH A i=(aH (rl.getD a.toNat v_) i||decide (i=b.toNat))) (Z: ∀i,aH E i=(aH ((rl.set a.toNat A).getD b.toNat v_) i||decide (i=a.toNat))):Con rl ((rl.set a.toNat A).set b.toNat E) a b:=by
 have a_: ∀r,(rl.set a.toNat A).getD r v_=if a.toNat=r then A else rl.getD r v_:=fun r=>by
  rw[ee];by_cases h:a.toNat=r
  ·subst h;rw[if_pos ⟨V,ha⟩,if_pos rfl]
  rw[if_neg (fun e=>h e.1),if_neg h]
 rw[a_,if_neg ad]at l2 Z
 have e: ∀r,((rl.set a.toNat A).set b.toNat E).getD r v_=if b.toNat=r then E else if a.toNat=r then A else rl.getD r v_:=fun r=>by
  rw[ee,a_];by_cases h:b.toNat=r
  ·subst h;rw[if_pos ⟨V,by rw[a0f];exact hb⟩,if_pos rfl]
  rw[if_neg (fun e=>h e.1),if_neg h]
 refine⟨by rw[a0f,a0f],fun r=>?_,fun r y=>?_⟩
 ·rw[e];split
  ·rename_i h;subst h;exact l2
  split
  ·rename_i h;subst h;exact l1
  rfl
 unfold bI
 rw[e]
 by_cases h:b.toNat=r
 ·subst h;rw[if_pos V,Z,a0C,decide_eq_true_eq];constructor
  ·rintro(h|h)
   ·exact .inl h
   exact .inr (.inr ⟨V,h⟩)
  rintro(h|⟨h,_⟩|⟨_,h⟩)
  ·exact .inl h
  ·exact absurd h.symm ad
  exact .inr h
 rw[if_neg h]
 by_cases N:a.toNat=r
 ·subst N;rw[if_pos V,h1,a0C,decide_eq_true_eq];constructor
  ·rintro(h|h)
   ·exact .inl h
   exact .inr (.inl ⟨V,h⟩)
  rintro(h|⟨_,h⟩|⟨h,_⟩)
  ·exact .inl h
  ·exact .inr h
  exact absurd h ad
 rw[if_neg N]
 exact⟨.inl,fun T=>T.elim id fun T=>by rcases T with⟨U,_⟩|⟨U,_⟩;exact absurd U.symm N;exact absurd U.symm h⟩
def upS(A:List (List U64))(k n y:Nat):Prop:=bI A k y/\y<n
theorem up_zero{A k}:Lst [] (upS A k 0):=Lst.nil fun r h=>a0D _ h.2
theorem Lst.snoc{l S n}(h:Lst l S)(T: ∀y,S y->y<n):Lst (l++[(n:Int)]) (fun y=>S y\/y=n):=by
 refine⟨a2k.2 ⟨h.asc,List.pairwise_singleton _ _,fun x U y N=>?_⟩,fun x=>?_⟩
 ·rw[a0b]at N;subst N;have:=(h.mem x).1 U;have:=T _ this.2;omega
 rw[a09,a0b,h.mem];constructor
 ·rintro(A|A)
  ·exact⟨A.1,.inl A.2⟩
  exact⟨M,.inr M⟩
 rintro⟨A,E|E⟩
 ·exact .inl ⟨A,E⟩
 exact .inr M
theorem up_yes{T k n l}(h:Lst l (upS T k n))(U:bI T k n):Lst (l++[(n:Int)]) (upS T k (n+1)):=Lst.ext (Lst.snoc h fun y Z=>Z.2) fun y=>by
 unfold upS;constructor
 ·rintro(⟨A,N⟩|rfl)
  ·exact⟨A,M⟩
  exact⟨U,a1u _⟩
 rintro⟨A,N⟩;rcases a0k y n with E|E
 ·exact .inl ⟨A,E⟩
 exact .inr M
theorem up_no{T k n l}(h:Lst l (upS T k n))(U: ¬bI T k n):Lst l (upS T k (n+1)):=Lst.ext h fun y=>by
 unfold upS;constructor
 ·rintro⟨A,N⟩;exact⟨A,M⟩
 rintro⟨A,N⟩;refine⟨A,?_⟩;rcases a0k y n with E|E
 ·exact E
 have:y=n:=M
 subst this;exact absurd A U
theorem rw_last{c A k}(h:RwF c A (E0 c k))(E:k=c.u.length):RwF c A (lW c):=by subst E;exact h
theorem row_rep{n r}:dw (List.replicate n ([]:List Int)) r=[]:=by unfold dw;rw[a03,a1w];split<;>rfl
structure InF(c:VFnT)(g:List (List Int)):Prop where
 len:g.length=c.r.toNat
 row: ∀r,r<c.r.toNat->Lst (dw g r) (Sy (lW c) r)
theorem inf_of{c g k}(A:g.length=c.r.toNat)(E:c.r.toNat<=k)(h: ∀r,r<k->Lst (dw g r) (Sy (lW c) r)):InF c g:=⟨A,fun r N=>h r M⟩
theorem fin_row{c rl g k n}(h:RwF c rl (lW c))(hk:k<c.r.toNat)(v:VF c)(hn:c.r.toNat<=n)(hg: ∀r,r<k->Lst (dw g r) (Sy (lW c) r))(hu:Lst (dw g k) (upS rl k n)): ∀r,r<k+1->Lst (dw g r) (Sy (lW c) r):=fun r hr=>by
 rcases a0k r k with A|A
 ·exact hg r A
 have:r=k:=M
 subst this;refine Lst.ext hu fun y=>?_
 unfold upS;rw[h.bit r hk];refine⟨fun h=>h.1,fun U=>⟨U,?_⟩⟩;have Z: ∀a x,lW c a x->(a:Int)<c.r/\(x:Int)<c.r:=fun a x ⟨b,i,A,E,N,T,_⟩=>⟨((bD (v.v b A i E)).2.1 _ N).2,iH v A T⟩
 rcases U with U|U
 ·have:=Z _ _ U;omega
 have:=Z _ _ U;omega
theorem inter_c{dk dn}(c:VFnT)(hs:Hb H F H [] R)(ry:in64 c.m)(rz:in64 c.r)(c8:Sr F dk c.u dn)(hT:TB 37 tabC F)(js: ∀j,(c.u.getD j v_).v.length<=1073741822):kKt ex 68 [(aG [c.m,c.r,(sL dk c.u.length dn)])] H fun v H'=> ∃ag,∃(kg:Nat) (g:List (List Int)),∃F',F.le F'/\Hb H F' H' [] R/\v=sL ag g.length kg/\Sr F' ag g kg/\(cb c=true->InF c g)/\(cb c=false->g=[]):=by
 refine aB Tryz.func68 V V (am 1 V (ab (aT (aN hs V V) V V ?_)));rintro _ H2 _ ⟨b1,rfl,l1,_⟩;let o7:Value:=(aG [c.m,c.r,(sL dk c.u.length dn)])
 refine za N_ (ae 3 V (ab (aS 1 0 18 18 [] [(18,o7)] (Hr_ 0 0 Hn_) l1 V V fun _=>zc (m3.kM ex c (HS.call l1) M M c8 hT (fun j=>a0e (js j) M)) ?_)));rintro _ H4 ⟨r4,F4,it,hX,rfl,rfl⟩;replace hX:=HS.back l1 V hX;replace hT:=hT.mono it;replace c8:=c8.mono it;refine bK 1 2 20 20 [] [(20,(!(cb c)))] Hn_ K_ V fun _=>ae 1 V (zI 1 2 (fun c6=>?_) fun c6=>?_)
 ·have hv:=c6;refine wT 1 [] 2 2 [] [(2,N_)] V fun _=>ak ⟨.inr V,_,V,none,0,([]:List (List Int)),_,(it),(HS.forget hX),V,(SR.nil:SR F4 N_ ([]:List (List Int))),(fun h=>absurd (h.symm.trans hv) e_),(fun _=>rfl)⟩
 have hv:=c6;have vF:=e9 hv;have uf:=vF.nb;have po:=vF.r;have ul:=wd_le vF.r;have rD:Int.tdiv (c.r+63) 64=(c.r+63)/64:=a1a M;have rE:(List.replicate c.r.toNat (v_:Hd)).length=c.r.toNat:=a0K;refine ab (aS 2 0 21 22 [] [(22,c.r)] (Hr_ 1 0 Hn_) hX V V fun _=>aT (cS (v_:Hd) hX V V V V V V V V V V M M) V V ?_);rintro _ r5 p9 ⟨a9,k9,rfl,qo,pG,_⟩;have pH:=HS.snoc pG;have ky:SF F4 (List.replicate c.r.toNat (v_:Hd)) (List.replicate c.r.toNat ([]:List U64)) []:=SF.rep _;have ri:=FAM.len ky;let g1:Fp:=(fP b1 [c.m,c.r,(sL dk c.u.length dn)])
 refine zn pH V fun ap r6 pI=>sgo 1 4 1 0 [] [] (Hr_ 4 3 Hn_) pI V V fun ru r7 l0=>ae 3 V (aU 2 24 26 [] [(25,((List.replicate c.r.toNat (v_:Hd)).length:Int)),(26,(iI 0))] (Hr_ 0 3 Hn_) l0 V V fun _=>aj (fun(mm:Nat) f H'=> ∃(rh:List Hd) (rl:List (List U64)) (k:Nat),∃b3 av,∃(ax:Nat),∃f6 F',F4.le F'/\Hb H F' H' [g1,b3,f6,(fP ap [(sL av rh.length ax)])] R/\OZ F' av rh ax b3/\SF F' rh rl f6/\aA f [(1,(pT b1 0)),(3,(pT ap 0)),(25,((List.replicate c.r.toNat (v_:Hd)).length:Int)),(26,(k:Int))]/\mm=c.r.toNat-k/\(rl.length=c.r.toNat)/\(k<=c.r.toNat)/\(∀j,j<k->rl.getD j v_=List.replicate (wds c) ⟨0⟩)) _ ⟨List.replicate c.r.toNat (v_:Hd),List.replicate c.r.toNat ([]:List U64),0,p9,a9,k9,[],_,fR,l0,qo,ky,f_,V,o_,M,(by intro j hj;omega)⟩ ?_)
 rintro rP su r8 ⟨rh,rl,k,b3,av,ax,f6,p8,hG,f8,bl,d1,kz,rfl,oX,sI,o1⟩ pS;refine au _ kz (fun _=>?_);clear kz;replace hT:=hT.mono hG;replace c8:=c8.mono hG;have p2:=FAM.len d1;refine am 1 V (wT 2 [] 27 27 [] [(27,(decide ((k:Int)<((List.replicate c.r.toNat (v_:Hd)).length:Int))))] V fun _=>zd 4 5 (fun qf=>?_) fun qf=>?_)
 ·refine wT 1 [] 28 28 [4] [(4,(k:Int))] V fun _=>aC V ?_
  have rY:in64 (c.r+63)->in64 (Int.tdiv (c.r+63) 64):=fun h=>vq h e_
  refine cN 6 29 34 [] [(29,(sL av rh.length ax)),(30,(k:Int)),(34,(Int.tdiv (c.r+63) 64))] (Hr_ 0 3 (Hr_ 3 0 (Ha_ (vi (n:=c.r+63)) (Ha_ (vA (show(64:Int)≠0 from by decide) (vq (a:=c.r+63) (b:=64) M e_)) Hn_)))) f8 V V fun _=>eU (id:= .x []) (cS (⟨0⟩:U64) f8.log0 V V V V V V V V V ⟨V,by decide⟩ M M) V V (by rintro _ _ qq ⟨ib,kc,rfl,lf,_,hwr⟩;exact dh V V (Wr.did hwr)) (⟨.inl V,.inl V,.inl V,.inl V,.inr trivial,.inr a0g,trivial⟩) ?_
  rintro _ qd qq ⟨ib,kc,rfl,lf,ha,_⟩ pX oz;replace ha:=HS.lg ha f8 oz;generalize ({qd with log:=pX}:Heap)=q1 at ha⊢;refine zx Hd k (OS.sv bl ha.log0 (i:=1) V) ?_;obtain⟨rn,ph,pJ,h6,pz⟩:=SF.open d1 ha (q:=2) (i:=k) V M;have h6:OS p8 (sL (rh.getD k v_).a (rh.getD k v_).n (rh.getD k v_).k) (rl.getD k v_) ph:=h6;have rL:=OS.nlen h6;obtain⟨pw,l2,k0⟩:=SF.shutN (⟨ib,(List.replicate (Int.tdiv (c.r+63) 64).toNat (⟨0⟩:U64)).length,kc⟩:Hd) pz fR pJ (q:=2) (m:=4) e_ V V lf;have rj:=FAM.len k0;refine gc (id:= .x (b3.map Prod.fst)) (bW (α:=Hd) (j:=k) (off:=0) (q:=1) (⟨ib,(List.replicate (Int.tdiv (c.r+63) 64).toNat (⟨0⟩:U64)).length,kc⟩:Hd) bl l2.log0 V V V V V V V V (aO (x:=v_) M) V (by rintro cs rfl;exact⟨a08 V,V⟩)) V (by rintro _ _ o2 ⟨h7,_,hwr⟩;exact dh V V (Wr.did hwr)) (kb V) ?_;rintro _ qe o2 ⟨h7,hL,_⟩ pY oD;replace hL:=HS.lg hL l2 oD;generalize ({qe with log:=pY}:Heap)=q2 at hL⊢;have qJ:=OS.len' h7;refine aW 2 V (wU 1 [] 26 26 [37] [(26,(iI ((k:Int)+1)))] (vi (n:=(k:Int)+1)) V fun _=>?_);refine pS _ _ _ ?_ ⟨rh.set k (⟨ib,(List.replicate (Int.tdiv (c.r+63) 64).toNat (⟨0⟩:U64)).length,kc⟩:Hd),rl.set k (List.replicate (Int.tdiv (c.r+63) 64).toNat (⟨0⟩:U64)),k+1,o2,av,ax,pw,_,(hG),(by(simpa only[a0f] using(HS.sub hL (a01 _ _)))),(OS.norm h7),k0,f_,V,(by rw[a0f];exact oX),M,(zset o1 M)⟩;omega
 refine wT 2 [] 38 38 [5] [(5,(.func (.func 114) #[] #[(pT ap 0)]))] V fun _=>?_
 have pE:=rw_zero (c:=c) oX M o1;refine ab (aS 1 0 39 39 [] [(39,o7)] (Hr_ 0 0 Hn_) f8 V V fun _=>zc (na.points_c ex c (HS.call f8) M M c8 hT M M) ?_);rintro _ r9 ⟨f3,f4,A,hl,qa,g6,hM,rfl,a7,sH⟩;replace hM:=HS.back f8 V hM;replace bl:=bl.mono g6;replace d1:=SF.mono g6 d1;refine za (sL f3 A.length f4) (ae 3 V ?_);have ps:=(by assumption:PsF c _)
 have tk:=ps.len;refine aU 2 41 44 [] [(42,(sL dk c.u.length dn)),(43,(c.u.length:Int)),(44,(iI 0))] (Hr_ 1 0 Hn_) hM V V fun _=>aj (fun(mm:Nat) f H'=> ∃(e1:List Hd) (h3:List (List U64)) (k:Nat),∃b4 a8,∃(bt:Nat),∃em F',qa.le F'/\Hb H F' H' [g1,b4,em,(fP ap [(sL a8 e1.length bt)]),hl] R/\OZ F' a8 e1 bt b4/\SF F' e1 h3 em/\aA f [(1,(pT b1 0)),(3,(pT ap 0)),(5,(.func (.func 114) #[] #[(pT ap 0)])),(6,(sL f3 A.length f4)),(42,(sL dk c.u.length dn)),(43,(c.u.length:Int)),(44,(k:Int))]/\mm=c.u.length-k/\(RwF c h3 (E0 c k))/\(k<=c.u.length)) _ ⟨rh,rl,0,b3,av,ax,f6,_,fR,hM,bl,d1,f_,V,(pE),M⟩ ?_
 rintro rQ sw sa ⟨e1,h3,k,b4,a8,bt,em,kl,g7,hb,go,hf,k3,rfl,n5,hk⟩ pU;refine au _ k3 (fun _=>?_);clear k3;replace hT:=(hT.mono g6).mono g7;replace c8:=(c8.mono g6).mono g7;replace a7:=a7.mono g7;have p3:=FAM.len hf;have rF:=n5.len;refine am 1 V (wT 2 [] 45 45 [] [(45,(decide ((k:Int)<(c.u.length:Int))))] V fun _=>zd 4 5 (fun qg=>?_) fun qg=>?_)
 ·have ja:k<c.u.length:=M
  have ud:=js k;have px:PtX c k (A.getD k v_):=ps.at_ k ja;have tl:(A.getD k v_).length=(c.u.getD k v_).v.length+2:=px.len;have qN:(A.getD k []).length=(c.u.getD k v_).v.length+2:=px.len;refine ab ?_;obtain⟨a2,l4⟩:=Sv.view (SR.sv c8 hb);obtain⟨qA,qB,qC,qD,g5⟩:=BlkT.fx (l4 k);refine bK 3 0 46 48 [] [(46,(k:Int)),(48,(aG [(sL (cA (a2 k) 0) (c.u.getD k v_).v.length (cK (a2 k) 0)),(c.u.getD k v_).f,(c.u.getD k v_).r,(c.u.getD k v_).t,(c.u.getD k v_).e]))] (Ha_ (Sv.ix (j:=(k:Int)) (SR.sv c8 hb)) (Hl_ 2 (qn 82 0 5 (BlkT.vw (l4 k)) V V V V) Hn_)) K_ V fun _=>zn hb V fun oW sb pK=>sgo 2 4 1 0 [7] [(7,(k:Int))] (Hr_ 5 5 Hn_) pK V V fun rv sc l3=>ae 2 V (aU 2 49 52 [] [(50,(sL (cA (a2 k) 0) (c.u.getD k v_).v.length (cK (a2 k) 0))),(51,((c.u.getD k v_).v.length:Int)),(52,(iI 0))] (Hr_ 1 5 Hn_) l3 V V fun _=>aj (fun(mm:Nat) f H'=> ∃(ht:List Hd) (h4:List (List U64)) (n:Nat),∃b5 bb,∃(bz:Nat),∃et F',kl.le F'/\Hb H F' H' [g1,b5,et,(fP ap [(sL bb ht.length bz)]),hl,(fP oW [(sL (cA (a2 k) 0) (c.u.getD k v_).v.length (cK (a2 k) 0)),(c.u.getD k v_).f,(c.u.getD k v_).r,(c.u.getD k v_).t,(c.u.getD k v_).e])] R/\OZ F' bb ht bz b5/\SF F' ht h4 et/\aA f [(1,(pT b1 0)),(3,(pT ap 0)),(5,(.func (.func 114) #[] #[(pT ap 0)])),(6,(sL f3 A.length f4)),(7,(k:Int)),(42,(sL dk c.u.length dn)),(43,(c.u.length:Int)),(44,(k:Int)),(50,(sL (cA (a2 k) 0) (c.u.getD k v_).v.length (cK (a2 k) 0))),(51,((c.u.getD k v_).v.length:Int)),(52,(n:Int))]/\mm=(c.u.getD k v_).v.length-n/\(RwF c h4 (E1 c k n))/\(n<=(c.u.getD k v_).v.length)) _ ⟨e1,h3,0,b4,a8,bt,em,_,fR,l3,go,hf,f_,V,(rw_e1 n5),M⟩ ?_)
  rintro rR sx sd ⟨ht,h4,n,b5,bb,bz,et,r2,g8,hO,co,d2,k4,rfl,o3,hn⟩ pV;refine au _ k4 (fun _=>?_);clear k4;replace hT:=hT.mono g8;replace a7:=a7.mono g8;replace g5:=g5.mono g8;have p4:=FAM.len d2;refine am 1 V (wT 2 [] 53 53 [] [(53,(decide ((n:Int)<((c.u.getD k v_).v.length:Int))))] V fun _=>zd 4 5 (fun qh=>?_) fun qh=>?_)
  ·have pk:n<(c.u.getD k v_).v.length:=M
   have pr:(∀x∈aE ((c.u.getD k v_).v.getD n v_),0<=x/\x<c.r)/\(∀x∈ah ((c.u.getD k v_).v.getD n v_),0<=x/\x<c.r)/\((c.u.getD k v_).v.getD n v_).args.length<=6:=bD (vF.v k ja n pk);have rI:=pr.2.2;have pl:Lst ((A.getD k v_).getD (n+1) v_) (ptS c k (n+1)):=px.pt (n+1) pk;have uh:=Lst.len pl po.1 (fun r h=>iH vF ja h);have ui:((A.getD k v_).getD (n+1) []).length=((A.getD k v_).getD (n+1) v_).length:=rfl;have rB:((A.getD k []).getD (n+1) []).length=((A.getD k v_).getD (n+1) v_).length:=rfl;have um:=dM (v:=((c.u.getD k v_).v.getD n v_));refine ab ?_;obtain⟨hD,l9⟩:=Sv.view (SR.sv g5 hO);obtain⟨qE,qF,qG,qH,qI,oV⟩:=VInT.fx (l9 n);let o8:Value:=(aG [((c.u.getD k v_).v.getD n v_).i.op,((c.u.getD k v_).v.getD n v_).i.a,((c.u.getD k v_).v.getD n v_).i.b,((c.u.getD k v_).v.getD n v_).i.c,((c.u.getD k v_).v.getD n v_).i.n,(sL (cA (hD n) 5) ((c.u.getD k v_).v.getD n v_).args.length (cK (hD n) 5))])
   refine bK 3 0 54 56 [] [(54,(n:Int)),(56,o8)] (Ha_ (Sv.ix (j:=(n:Int)) (SR.sv g5 hO)) (Hl_ 2 (qn 88 0 6 (VInT.vw (l9 n)) V V V V) Hn_)) K_ V fun _=>zn hO V fun kr se pL=>sgo 2 4 1 0 [9] [(9,(n:Int))] (Hr_ 5 6 Hn_) pL V V fun rx sf h8=>ae 2 V (ab (aS 1 0 57 57 [] [(57,o8)] (Hr_ 0 6 Hn_) h8 V V fun _=>?_))
   refine zc (ma.iy ex ((c.u.getD k v_).v.getD n v_) (HS.call h8) M M M M M oV hT) ?_;rintro _ sg ⟨kp,n3,sP,n4,qb,hH,h9,rfl,g4,rfl⟩;replace h9:=HS.back h8 V h9;replace co:=co.mono hH;replace d2:=SF.mono hH d2;let n6:Fp:=(fP oW [(sL (cA (a2 k) 0) (c.u.getD k v_).v.length (cK (a2 k) 0)),(c.u.getD k v_).f,(c.u.getD k v_).r,(c.u.getD k v_).t,(c.u.getD k v_).e])
   let n7:Fp:=(fP kr [((c.u.getD k v_).v.getD n v_).i.op,((c.u.getD k v_).v.getD n v_).i.a,((c.u.getD k v_).v.getD n v_).i.b,((c.u.getD k v_).v.getD n v_).i.c,((c.u.getD k v_).v.getD n v_).i.n,(sL (cA (hD n) 5) ((c.u.getD k v_).v.getD n v_).args.length (cK (hD n) 5))])
   refine bK 2 2 59 60 [] [(59,((ah ((c.u.getD k v_).v.getD n v_)).length:Int)),(60,(iI 0))] Hn_ K_ V fun _=>ae 2 V (aj (fun(mm:Nat) f H'=> ∃(hu:List Hd) (h5:List (List U64)) (q:Nat),∃b6 bk,∃(b2:Nat),∃ez F',qb.le F'/\Hb H F' H' [g1,b6,ez,(fP ap [(sL bk hu.length b2)]),hl,n6,n7,n4] R/\OZ F' bk hu b2 b6/\SF F' hu h5 ez/\aA f [(1,(pT b1 0)),(3,(pT ap 0)),(5,(.func (.func 114) #[] #[(pT ap 0)])),(6,(sL f3 A.length f4)),(7,(k:Int)),(9,(n:Int)),(10,(pT kr 0)),(42,(sL dk c.u.length dn)),(43,(c.u.length:Int)),(44,(k:Int)),(50,(sL (cA (a2 k) 0) (c.u.getD k v_).v.length (cK (a2 k) 0))),(51,((c.u.getD k v_).v.length:Int)),(52,(n:Int)),(58,(sL kp (ah ((c.u.getD k v_).v.getD n v_)).length n3)),(59,((ah ((c.u.getD k v_).v.getD n v_)).length:Int)),(60,(q:Int))]/\mm=(ah ((c.u.getD k v_).v.getD n v_)).length-q/\(RwF c h5 (E2 c k n q))/\(q<=(ah ((c.u.getD k v_).v.getD n v_)).length)) _ ⟨ht,h4,0,b5,bb,bz,et,_,fR,h9,co,d2,f_,V,(rw_e2 o3),M⟩ ?_)
   rintro rS sy sk ⟨hu,h5,q,b6,bk,b2,ez,qc,hI,dv,gt,hg,k5,rfl,o4,hq⟩ pW;refine au _ k5 (fun _=>?_);clear k5;replace a7:=(a7.mono hH).mono hI;replace g4:=g4.mono hI;have p5:=FAM.len hg;refine am 1 V (wT 2 [] 61 61 [] [(61,(decide ((q:Int)<((ah ((c.u.getD k v_).v.getD n v_)).length:Int))))] V fun _=>zd 4 5 (fun qi=>?_) fun qi=>?_)
   ·have sm:=dm pr.2.1 (k:=q) M;obtain⟨q5,mk⟩:=Sv.view (OS.sv g4 dv (i:=7) V);have sD:=fI (mk q);refine wrp 2 62 63 [12] [(12,((ah ((c.u.getD k v_).v.getD n v_)).getD q 0))] (Ha_ (Sv.ix (j:=(q:Int)) (OS.sv g4 dv (i:=7) V)) (Hl_ 1 (ql 3 0 (vI (mk q)) V V) Hn_)) K_ V fun _=>?_
    obtain⟨q6,mx⟩:=Sv.view (OS.sv a7 dv (i:=4) V);have o6:=fL (mx k);obtain⟨hE,mI⟩:=Sv.view (SR.sv o6 dv);have ki:=fL (mI (n+1));refine wrp 2 64 73 [] [(71,(sL (cA (hE (n+1)) 0) ((A.getD k v_).getD (n+1) v_).length (cK (hE (n+1)) 0))),(72,(((A.getD k v_).getD (n+1) v_).length:Int)),(73,(iI 0))] (Ha_ (Sv.ix (j:=(k:Int)) (OS.sv a7 dv (i:=4) V)) (Hl_ 3 (ql 43 0 (vL (mx k)) V V) (Ha_ (vi (n:=(n:Int)+1)) (Ha_ (Sv.ix (j:=(n:Int)+1) (SR.sv o6 dv)) (Hl_ 7 (ql 22 0 (vL (mI (n+1))) V V) Hn_))))) K_ V fun _=>aj (fun(mm:Nat) f H'=> ∃(U:List Hd) (E:List (List U64)) (p:Nat),∃a1 aw,∃(ay:Nat),∃e0 F',qc.le F'/\Hb H F' H' [g1,a1,e0,(fP ap [(sL aw U.length ay)]),hl,n6,n7,n4] R/\OZ F' aw U ay a1/\SF F' U E e0/\aA f [(1,(pT b1 0)),(3,(pT ap 0)),(5,(.func (.func 114) #[] #[(pT ap 0)])),(6,(sL f3 A.length f4)),(7,(k:Int)),(9,(n:Int)),(10,(pT kr 0)),(12,((ah ((c.u.getD k v_).v.getD n v_)).getD q 0)),(42,(sL dk c.u.length dn)),(43,(c.u.length:Int)),(44,(k:Int)),(50,(sL (cA (a2 k) 0) (c.u.getD k v_).v.length (cK (a2 k) 0))),(51,((c.u.getD k v_).v.length:Int)),(52,(n:Int)),(58,(sL kp (ah ((c.u.getD k v_).v.getD n v_)).length n3)),(59,((ah ((c.u.getD k v_).v.getD n v_)).length:Int)),(60,(q:Int)),(71,(sL (cA (hE (n+1)) 0) ((A.getD k v_).getD (n+1) v_).length (cK (hE (n+1)) 0))),(72,(((A.getD k v_).getD (n+1) v_).length:Int)),(73,(p:Int))]/\mm=(((A.getD k v_).getD (n+1) v_)).length-p/\(RwF c E (E3 c k n q ((A.getD k v_).getD (n+1) v_) p))/\(p<=(((A.getD k v_).getD (n+1) v_)).length)) _ ⟨hu,h5,0,b6,bk,b2,ez,_,fR,dv,gt,hg,f_,V,(rw_e3 o4),M⟩ ?_
    rintro rU sC sn ⟨U,E,p,a1,aw,ay,e0,kn,hJ,c9,a_,f5,k6,rfl,hA,hp⟩ n1;refine au _ k6 (fun _=>?_);clear k6;replace ki:=ki.mono hJ;have p6:=FAM.len f5;refine am 1 V (wT 2 [] 74 74 [] [(74,(decide ((p:Int)<(((A.getD k v_).getD (n+1) v_).length:Int))))] V fun _=>zd 4 5 (fun qj=>?_) fun qj=>?_)
    ·have so:0<=(((A.getD k v_).getD (n+1) v_)).getD p 0/\(((A.getD k v_).getD (n+1) v_)).getD p 0<c.r:=by(have hm:=(pl.mem _).1 (jJ (l:=((A.getD k v_).getD (n+1) v_)) (q:=p) M);have hh:=iH vF ja hm.2;omega)
     obtain⟨q7,m0⟩:=Sv.view (SR.sv ki c9);have sE:=fI (m0 p);refine wrp 2 75 76 [14] [(14,(((A.getD k v_).getD (n+1) v_).getD p 0))] (Ha_ (Sv.ix (j:=(p:Int)) (SR.sv ki c9)) (Hl_ 1 (ql 3 0 (vI (m0 p)) V V) Hn_)) K_ V fun _=>wrp 1 77 93 [] [(93,(((((A.getD k v_).getD (n+1) v_).getD p 0) !=((ah ((c.u.getD k v_).v.getD n v_)).getD q 0))&&(!((((c.u.getD k v_).v.getD n v_).i.op==10)&&((((A.getD k v_).getD (n+1) v_).getD p 0)==((c.u.getD k v_).v.getD n v_).i.b)))))] (bp 6 (fun _=>(ql 3 0 (HS.hc c9 (i:=6) V) V V)) (iu 12 (fun _ _=>(ql 3 2 (HS.hc c9 (i:=6) V) V V)) Hn_)) V V fun _=>zI 0 2 (fun kx=>?_) fun kx=>?_
     ·have g9:=kx;have ks:eok c k n ((ah ((c.u.getD k v_).v.getD n v_)).getD q 0) ((((A.getD k v_).getD (n+1) v_)).getD p 0):=⟨g9.1,fun h=>by have h2:=g9.2;simp_all⟩
      have rG:=hA.len;have uj:=hA.row ((ah ((c.u.getD k v_).v.getD n v_)).getD q 0).toNat M;have uk:=hA.row ((((A.getD k v_).getD (n+1) v_)).getD p 0).toNat M;have ug:=n64 (s:=E.getD ((ah ((c.u.getD k v_).v.getD n v_)).getD q 0).toNat v_) (n:=(((A.getD k v_).getD (n+1) v_)).getD p 0) M;have ue:=n64 (s:=E.getD ((((A.getD k v_).getD (n+1) v_)).getD p 0).toNat v_) (n:=(ah ((c.u.getD k v_).v.getD n v_)).getD q 0) M;have pg:((ah ((c.u.getD k v_).v.getD n v_)).getD q 0).toNat≠((((A.getD k v_).getD (n+1) v_)).getD p 0).toNat:=by have:=g9.1;omega
      refine ab (zm (.func (.func 114) #[] #[(pT ap 0)]) (zm (iI ((ah ((c.u.getD k v_).v.getD n v_)).getD q 0)) (zm (iI (((A.getD k v_).getD (n+1) v_).getD p 0)) (kH (R:=fun v H'=> ∃(dj:List Hd) (rlc:List (List U64)),∃c7 ci,∃(c5:Nat),∃f7 F',kn.le F'/\Hb H F' H' [g1,c7,f7,(fP ap [(sL ci dj.length c5)]),hl,n6,n7,n4] R/\OZ F' ci dj c5 c7/\SF F' dj rlc f7/\v= .tuple #[]/\(Con E rlc ((ah ((c.u.getD k v_).v.getD n v_)).getD q 0) (((A.getD k v_).getD (n+1) v_).getD p 0))) (ap_callc V V V V) V V ?_ ?_))))
      ·refine aB Tryz.func114 V V (am 1 V (ab ?_));obtain⟨q8,pQ⟩:=Sv.view (OS.sv a_ c9 (i:=1) V);obtain⟨rp,pi,hP,f1,pA⟩:=SF.open f5 c9 (q:=2) (i:=((ah ((c.u.getD k v_).v.getD n v_)).getD q 0).toNat) V M;have f1:OS kn (sL (U.getD (((ah ((c.u.getD k v_).v.getD n v_)).getD q 0).toNat) v_).a (U.getD (((ah ((c.u.getD k v_).v.getD n v_)).getD q 0).toNat) v_).n (U.getD (((ah ((c.u.getD k v_).v.getD n v_)).getD q 0).toNat) v_).k) (E.getD (((ah ((c.u.getD k v_).v.getD n v_)).getD q 0).toNat) v_) pi:=f1;have rM:=OS.nlen f1;have r0:in64 (((A.getD k v_).getD (n+1) v_).getD p 0)->in64 (Int.tdiv (((A.getD k v_).getD (n+1) v_).getD p 0) 64):=fun h=>vq h e_
       obtain⟨q9,nm⟩:=Sv.view (OS.sv f1 hP (i:=8) V);have sF:=fU (nm ((Int.tdiv (((A.getD k v_).getD (n+1) v_).getD p 0) 64).toNat));refine aS 14 0 5 18 [] [(17,(.int .u64 (aJ .or .u64 (((E.getD (((ah ((c.u.getD k v_).v.getD n v_)).getD q 0).toNat) v_).getD ((Int.tdiv (((A.getD k v_).getD (n+1) v_).getD p 0) 64).toNat) v_).n) (IntKind.u64.wrap (1 *2^(Nat.min ((Int.tmod (((A.getD k v_).getD (n+1) v_).getD p 0) 64).toNat) 64)))))),(18,(.pointer (some ⟨sB (sL (U.getD (((ah ((c.u.getD k v_).v.getD n v_)).getD q 0).toNat) v_).a (U.getD (((ah ((c.u.getD k v_).v.getD n v_)).getD q 0).toNat) v_).n (U.getD (((ah ((c.u.getD k v_).v.getD n v_)).getD q 0).toNat) v_).k),sO (sL (U.getD (((ah ((c.u.getD k v_).v.getD n v_)).getD q 0).toNat) v_).a (U.getD (((ah ((c.u.getD k v_).v.getD n v_)).getD q 0).toNat) v_).n (U.getD (((ah ((c.u.getD k v_).v.getD n v_)).getD q 0).toNat) v_).k)+((Int.tdiv (((A.getD k v_).getD (n+1) v_).getD p 0) 64).toNat) *Rp.sz U64,none⟩)))] (Hr_ 0 3 (Ha_ (Sv.ix (j:=((ah ((c.u.getD k v_).v.getD n v_)).getD q 0)) (OS.sv a_ c9 (i:=1) V)) (Hl_ 3 (ql 184 0 (vH (pQ (((ah ((c.u.getD k v_).v.getD n v_)).getD q 0).toNat))) V V) (Ha_ (vA (show(64:Int)≠0 from by decide) (vq (a:=(((A.getD k v_).getD (n+1) v_).getD p 0)) (b:=64) M e_)) (Ha_ (Sv.ix (j:=Int.tdiv (((A.getD k v_).getD (n+1) v_).getD p 0) 64) (OS.sv f1 hP (i:=8) V)) (Hl_ 7 (ql 161 0 (vU (nm ((Int.tdiv (((A.getD k v_).getD (n+1) v_).getD p 0) 64).toNat))) V V) (Ha_ (show(64:Int)≠0 from by decide) (Ha_ (vu (n:=Int.tmod (((A.getD k v_).getD (n+1) v_).getD p 0) 64) M) (Ha_ (show(0:Int)<=Int.tmod (((A.getD k v_).getD (n+1) v_).getD p 0) 64 from by omega) (Ha_ (Sv.ix (j:=Int.tdiv (((A.getD k v_).getD (n+1) v_).getD p 0) 64) (OS.sv f1 hP (i:=8) V)) Hn_)))))))))) c9 V V fun _=>cL (bW (α:=U64) (j:=(Int.tdiv (((A.getD k v_).getD (n+1) v_).getD p 0) 64).toNat) (off:=0) (q:=8) ⟨aJ .or .u64 (((E.getD (((ah ((c.u.getD k v_).v.getD n v_)).getD q 0).toNat) v_).getD ((Int.tdiv (((A.getD k v_).getD (n+1) v_).getD p 0) 64).toNat) v_).n) (IntKind.u64.wrap (1 *2^(Nat.min ((Int.tmod (((A.getD k v_).getD (n+1) v_).getD p 0) 64).toNat) 64)))⟩ f1 hP V V V V V V V V (aO (x:=v_) M) V (by rintro cs ⟨rfl,_⟩;exact⟨a08 V,V,by(dsimp only;exact fO _ _ _)⟩)) V ?_
       rintro _ sq sM ⟨ll,pN,_⟩;have qK:=OS.len' ll;refine ae 1 V ?_;obtain⟨rr,hQ,k7⟩:=SF.shut pA fR pN (q:=2) (m:=8) e_ V V ll;have rk:=FAM.len k7;have sJ:((E.set (((ah ((c.u.getD k v_).v.getD n v_)).getD q 0).toNat) ((E.getD (((ah ((c.u.getD k v_).v.getD n v_)).getD q 0).toNat) v_).set ((Int.tdiv (((A.getD k v_).getD (n+1) v_).getD p 0) 64).toNat) ⟨aJ .or .u64 (((E.getD (((ah ((c.u.getD k v_).v.getD n v_)).getD q 0).toNat) v_).getD ((Int.tdiv (((A.getD k v_).getD (n+1) v_).getD p 0) 64).toNat) v_).n) (IntKind.u64.wrap (1 *2^(Nat.min ((Int.tmod (((A.getD k v_).getD (n+1) v_).getD p 0) 64).toNat) 64)))⟩)).getD (((A.getD k v_).getD (n+1) v_).getD p 0).toNat v_).length=(E.getD (((A.getD k v_).getD (n+1) v_).getD p 0).toNat v_).length:=by rw[ee,if_neg (fun e=>pg e.1)]
       refine ab ?_;obtain⟨rc,pR⟩:=Sv.view (OS.sv a_ hQ (i:=1) V);obtain⟨rq,pj,hR,f2,pB⟩:=SF.open k7 hQ (q:=2) (i:=(((A.getD k v_).getD (n+1) v_).getD p 0).toNat) V M;have f2:OS kn (sL (U.getD (((A.getD k v_).getD (n+1) v_).getD p 0).toNat v_).a (U.getD (((A.getD k v_).getD (n+1) v_).getD p 0).toNat v_).n (U.getD (((A.getD k v_).getD (n+1) v_).getD p 0).toNat v_).k) ((E.set (((ah ((c.u.getD k v_).v.getD n v_)).getD q 0).toNat) ((E.getD (((ah ((c.u.getD k v_).v.getD n v_)).getD q 0).toNat) v_).set ((Int.tdiv (((A.getD k v_).getD (n+1) v_).getD p 0) 64).toNat) ⟨aJ .or .u64 (((E.getD (((ah ((c.u.getD k v_).v.getD n v_)).getD q 0).toNat) v_).getD ((Int.tdiv (((A.getD k v_).getD (n+1) v_).getD p 0) 64).toNat) v_).n) (IntKind.u64.wrap (1 *2^(Nat.min ((Int.tmod (((A.getD k v_).getD (n+1) v_).getD p 0) 64).toNat) 64)))⟩)).getD (((A.getD k v_).getD (n+1) v_).getD p 0).toNat v_) pj:=f2;have rO:=OS.nlen f2;have r1:in64 ((ah ((c.u.getD k v_).v.getD n v_)).getD q 0)->in64 (Int.tdiv ((ah ((c.u.getD k v_).v.getD n v_)).getD q 0) 64):=fun h=>vq h e_
       obtain⟨re,nx⟩:=Sv.view (OS.sv f2 hR (i:=9) V);have sG:=fU (nx ((Int.tdiv ((ah ((c.u.getD k v_).v.getD n v_)).getD q 0) 64).toNat));refine aS 14 0 19 32 [] [(31,(.int .u64 (aJ .or .u64 ((((E.set (((ah ((c.u.getD k v_).v.getD n v_)).getD q 0).toNat) ((E.getD (((ah ((c.u.getD k v_).v.getD n v_)).getD q 0).toNat) v_).set ((Int.tdiv (((A.getD k v_).getD (n+1) v_).getD p 0) 64).toNat) ⟨aJ .or .u64 (((E.getD (((ah ((c.u.getD k v_).v.getD n v_)).getD q 0).toNat) v_).getD ((Int.tdiv (((A.getD k v_).getD (n+1) v_).getD p 0) 64).toNat) v_).n) (IntKind.u64.wrap (1 *2^(Nat.min ((Int.tmod (((A.getD k v_).getD (n+1) v_).getD p 0) 64).toNat) 64)))⟩)).getD (((A.getD k v_).getD (n+1) v_).getD p 0).toNat v_).getD ((Int.tdiv ((ah ((c.u.getD k v_).v.getD n v_)).getD q 0) 64).toNat) v_).n) (IntKind.u64.wrap (1 *2^(Nat.min ((Int.tmod ((ah ((c.u.getD k v_).v.getD n v_)).getD q 0) 64).toNat) 64)))))),(32,(.pointer (some ⟨sB (sL (U.getD (((A.getD k v_).getD (n+1) v_).getD p 0).toNat v_).a (U.getD (((A.getD k v_).getD (n+1) v_).getD p 0).toNat v_).n (U.getD (((A.getD k v_).getD (n+1) v_).getD p 0).toNat v_).k),sO (sL (U.getD (((A.getD k v_).getD (n+1) v_).getD p 0).toNat v_).a (U.getD (((A.getD k v_).getD (n+1) v_).getD p 0).toNat v_).n (U.getD (((A.getD k v_).getD (n+1) v_).getD p 0).toNat v_).k)+((Int.tdiv ((ah ((c.u.getD k v_).v.getD n v_)).getD q 0) 64).toNat) *Rp.sz U64,none⟩)))] (Hr_ 0 3 (Ha_ (Sv.ix (j:=(((A.getD k v_).getD (n+1) v_).getD p 0)) (OS.sv a_ hQ (i:=1) V)) (Hl_ 3 (ql 184 0 (vH (pR (((A.getD k v_).getD (n+1) v_).getD p 0).toNat)) V V) (Ha_ (vA (show(64:Int)≠0 from by decide) (vq (a:=((ah ((c.u.getD k v_).v.getD n v_)).getD q 0)) (b:=64) M e_)) (Ha_ (Sv.ix (j:=Int.tdiv ((ah ((c.u.getD k v_).v.getD n v_)).getD q 0) 64) (OS.sv f2 hR (i:=9) V)) (Hl_ 7 (ql 161 0 (vU (nx ((Int.tdiv ((ah ((c.u.getD k v_).v.getD n v_)).getD q 0) 64).toNat))) V V) (Ha_ (show(64:Int)≠0 from by decide) (Ha_ (vu (n:=Int.tmod ((ah ((c.u.getD k v_).v.getD n v_)).getD q 0) 64) M) (Ha_ (show(0:Int)<=Int.tmod ((ah ((c.u.getD k v_).v.getD n v_)).getD q 0) 64 from by omega) (Ha_ (Sv.ix (j:=Int.tdiv ((ah ((c.u.getD k v_).v.getD n v_)).getD q 0) 64) (OS.sv f2 hR (i:=9) V)) Hn_)))))))))) hQ V V fun _=>cL (bW (α:=U64) (j:=(Int.tdiv ((ah ((c.u.getD k v_).v.getD n v_)).getD q 0) 64).toNat) (off:=0) (q:=9) ⟨aJ .or .u64 ((((E.set (((ah ((c.u.getD k v_).v.getD n v_)).getD q 0).toNat) ((E.getD (((ah ((c.u.getD k v_).v.getD n v_)).getD q 0).toNat) v_).set ((Int.tdiv (((A.getD k v_).getD (n+1) v_).getD p 0) 64).toNat) ⟨aJ .or .u64 (((E.getD (((ah ((c.u.getD k v_).v.getD n v_)).getD q 0).toNat) v_).getD ((Int.tdiv (((A.getD k v_).getD (n+1) v_).getD p 0) 64).toNat) v_).n) (IntKind.u64.wrap (1 *2^(Nat.min ((Int.tmod (((A.getD k v_).getD (n+1) v_).getD p 0) 64).toNat) 64)))⟩)).getD (((A.getD k v_).getD (n+1) v_).getD p 0).toNat v_).getD ((Int.tdiv ((ah ((c.u.getD k v_).v.getD n v_)).getD q 0) 64).toNat) v_).n) (IntKind.u64.wrap (1 *2^(Nat.min ((Int.tmod ((ah ((c.u.getD k v_).v.getD n v_)).getD q 0) 64).toNat) 64)))⟩ f2 hR V V V V V V V V (aO (x:=v_) M) V (by rintro cs ⟨rfl,_⟩;exact⟨a08 V,V,by(dsimp only;exact fO _ _ _)⟩)) V ?_
       rintro _ ss sN ⟨lr,pO,_⟩;have qL:=OS.len' lr;refine ae 0 V ?_;obtain⟨py,pP,k8⟩:=SF.shut pB fR pO (q:=2) (m:=9) e_ V V lr;have rm:=FAM.len k8;refine aM ⟨.inl V,_,V,U,(E.set (((ah ((c.u.getD k v_).v.getD n v_)).getD q 0).toNat) ((E.getD (((ah ((c.u.getD k v_).v.getD n v_)).getD q 0).toNat) v_).set ((Int.tdiv (((A.getD k v_).getD (n+1) v_).getD p 0) 64).toNat) ⟨aJ .or .u64 (((E.getD (((ah ((c.u.getD k v_).v.getD n v_)).getD q 0).toNat) v_).getD ((Int.tdiv (((A.getD k v_).getD (n+1) v_).getD p 0) 64).toNat) v_).n) (IntKind.u64.wrap (1 *2^(Nat.min ((Int.tmod (((A.getD k v_).getD (n+1) v_).getD p 0) 64).toNat) 64)))⟩)).set (((A.getD k v_).getD (n+1) v_).getD p 0).toNat (((E.set (((ah ((c.u.getD k v_).v.getD n v_)).getD q 0).toNat) ((E.getD (((ah ((c.u.getD k v_).v.getD n v_)).getD q 0).toNat) v_).set ((Int.tdiv (((A.getD k v_).getD (n+1) v_).getD p 0) 64).toNat) ⟨aJ .or .u64 (((E.getD (((ah ((c.u.getD k v_).v.getD n v_)).getD q 0).toNat) v_).getD ((Int.tdiv (((A.getD k v_).getD (n+1) v_).getD p 0) 64).toNat) v_).n) (IntKind.u64.wrap (1 *2^(Nat.min ((Int.tmod (((A.getD k v_).getD (n+1) v_).getD p 0) 64).toNat) 64)))⟩)).getD (((A.getD k v_).getD (n+1) v_).getD p 0).toNat v_).set ((Int.tdiv ((ah ((c.u.getD k v_).v.getD n v_)).getD q 0) 64).toNat) ⟨aJ .or .u64 ((((E.set (((ah ((c.u.getD k v_).v.getD n v_)).getD q 0).toNat) ((E.getD (((ah ((c.u.getD k v_).v.getD n v_)).getD q 0).toNat) v_).set ((Int.tdiv (((A.getD k v_).getD (n+1) v_).getD p 0) 64).toNat) ⟨aJ .or .u64 (((E.getD (((ah ((c.u.getD k v_).v.getD n v_)).getD q 0).toNat) v_).getD ((Int.tdiv (((A.getD k v_).getD (n+1) v_).getD p 0) 64).toNat) v_).n) (IntKind.u64.wrap (1 *2^(Nat.min ((Int.tmod (((A.getD k v_).getD (n+1) v_).getD p 0) 64).toNat) 64)))⟩)).getD (((A.getD k v_).getD (n+1) v_).getD p 0).toNat v_).getD ((Int.tdiv ((ah ((c.u.getD k v_).v.getD n v_)).getD q 0) 64).toNat) v_).n) (IntKind.u64.wrap (1 *2^(Nat.min ((Int.tmod ((ah ((c.u.getD k v_).v.getD n v_)).getD q 0) 64).toNat) 64)))⟩),a1,aw,ay,py,_,fR,(HS.sub pP (a01 _ _)),a_,k8,V,(con_two M M pg a0f a0f (fun i=>add_ok M X i) (fun i=>add_ok M X i))⟩
      rintro _ sp ⟨dj,rlc,c7,ci,c5,f7,r3,pC,pM,h1,hY,rfl,hcon⟩;have p7:=FAM.len hY;refine gL (am 2 V (wU 1 [] 73 73 [98] [(73,(iI ((p:Int)+1)))] (vi (n:=(p:Int)+1)) V fun _=>?_));refine n1 _ _ _ ?_ ⟨dj,rlc,p+1,c7,ci,c5,f7,_,(fT (hJ) pC),pM,h1,hY,f_,V,(rw_yes M hA hcon sm.1 so.1 ks),M⟩;omega
     have g9:=kx;have ks: ¬eok c k n ((ah ((c.u.getD k v_).v.getD n v_)).getD q 0) ((((A.getD k v_).getD (n+1) v_)).getD p 0):=fun he=>he.2 (g9 he.1)
     refine wU 1 [] 73 73 [98] [(73,(iI ((p:Int)+1)))] (vi (n:=(p:Int)+1)) V fun _=>?_
     refine n1 _ _ _ ?_ ⟨U,E,p+1,a1,aw,ay,e0,_,(hJ),c9,a_,f5,f_,V,(rw_no M hA ks),M⟩;omega
    refine wU 1 [] 60 60 [99] [(60,(iI ((q:Int)+1)))] (vi (n:=(q:Int)+1)) V fun _=>?_
    refine pW _ _ _ ?_ ⟨U,E,q+1,a1,aw,ay,e0,_,(fT (hI) hJ),c9,a_,f5,f_,V,(rw_e2s pl hA (show q<(ah ((c.u.getD k v_).v.getD n v_)).length by omega) M),M⟩;omega
   refine wU 1 [] 52 52 [100] [(52,(iI ((n:Int)+1)))] (vi (n:=(n:Int)+1)) V fun _=>?_
   refine pV _ _ _ ?_ ⟨hu,h5,n+1,b6,bk,b2,ez,_,(fT (fT (g8) hH) hI),(HS.sub dv (a01 _ _)),gt,hg,f_,V,(rw_e1s o4 (show(ah ((c.u.getD k v_).v.getD n v_)).length<=q by omega)),M⟩;omega
  refine wU 1 [] 44 44 [101] [(44,(iI ((k:Int)+1)))] (vi (n:=(k:Int)+1)) V fun _=>?_
  refine pU _ _ _ ?_ ⟨ht,h4,k+1,b5,bb,bz,et,_,(fT (g7) g8),(HS.sub hO (a01 _ _)),co,d2,f_,V,(rw_e0 o3 (show(c.u.getD k v_).v.length=n by omega)),M⟩;omega
 refine ab (aS 2 0 102 103 [] [(103,c.r)] (Hr_ 1 0 Hn_) hb V V fun _=>aT (cS (v_:Hd) hb V V V V V V V V V V M M) V V ?_);rintro _ qV pZ ⟨ko,n2,rfl,oE,oI,_⟩;have jb:=HS.snoc oI;have iv:SF kl (List.replicate c.r.toNat (v_:Hd)) (List.replicate c.r.toNat ([]:List Int)) []:=SF.rep _;have qu:=FAM.len iv;refine za (sL ko (List.replicate c.r.toNat (v_:Hd)).length n2) (ae 3 V (aU 2 105 107 [] [(106,(e1.length:Int)),(107,(iI 0))] (Hr_ 0 3 Hn_) jb V V fun _=>aj (fun(mm:Nat) f H'=> ∃(hz:List Hd) (kd:List (List U64)) (oh:List Hd) (ol:List (List Int)) (k:Nat),∃aq,∃(ar:Nat),∃dt cc b8,∃(b9:Nat),∃fj fi F',kl.le F'/\Hb H F' H' [g1,cc,fi,(fP ap [(sL b8 hz.length b9)]),hl,dt,fj] R/\OZ F' aq oh ar dt/\OZ F' b8 hz b9 cc/\SF F' oh ol fj/\SF F' hz kd fi/\aA f [(1,(pT b1 0)),(3,(pT ap 0)),(15,(sL aq oh.length ar)),(106,(e1.length:Int)),(107,(k:Int))]/\mm=c.r.toNat-k/\(RwF c kd (lW c))/\(ol.length=c.r.toNat)/\(∀r,r<k->Lst (dw ol r) (Sy (lW c) r))/\(∀r,k<=r->dw ol r=[])/\(k<=c.r.toNat)) _ ⟨e1,h3,List.replicate c.r.toNat (v_:Hd),List.replicate c.r.toNat ([]:List Int),0,ko,n2,pZ,b4,a8,bt,[],em,_,fR,jb,oE,go,iv,hf,f_,V,(rw_last n5 M),o_,(by intro r hr;omega),(fun r _=>row_rep),M⟩ ?_));rintro qR rf qW ⟨hz,kd,oh,ol,k,aq,ar,dt,cc,b8,b9,fj,fi,o9,ii,jq,ds,hV,e6,hw,iz,rfl,o5,qm,oY,oZ,hk⟩ oU;refine au _ iz (fun _=>?_);clear iz;have pn:=FAM.len e6;have pm:=FAM.len hw;refine am 1 V (wT 2 [] 108 108 [] [(108,(decide ((k:Int)<(e1.length:Int))))] V fun _=>zd 4 5 (fun pd=>?_) fun pd=>?_)
 ·have rH:=o5.len;refine wT 2 [] 109 109 [16] [(16,(k:Int))] V fun _=>wT 2 [] 1 0 [17] [(17,(iI 0))] V fun _=>aj (fun(mm:Nat) f H'=> ∃(e2:List Hd) (e3:List (List U64)) (a4:List Hd) (b7:List (List Int)) (n:Nat),∃N,∃(T:Nat),∃ch an Z,∃(aa:Nat),∃dd f0 F',o9.le F'/\Hb H F' H' [g1,an,f0,(fP ap [(sL Z e2.length aa)]),hl,ch,dd] R/\OZ F' N a4 T ch/\OZ F' Z e2 aa an/\SF F' a4 b7 dd/\SF F' e2 e3 f0/\aA f [(1,(pT b1 0)),(3,(pT ap 0)),(15,(sL N a4.length T)),(16,(k:Int)),(17,(n:Int)),(106,(e1.length:Int)),(107,(k:Int))]/\mm=c.r.toNat-n/\(RwF c e3 (lW c))/\(b7.length=c.r.toNat)/\(∀r,r<k->Lst (dw b7 r) (Sy (lW c) r))/\(∀r,k<r->dw b7 r=[])/\(Lst (dw b7 k) (upS e3 k n))/\(n<=c.r.toNat)) _ ⟨hz,kd,oh,ol,0,aq,ar,dt,cc,b8,b9,fj,fi,_,fR,jq,ds,hV,e6,hw,f_,V,(o5),M,(oY),(fun r hr=>oZ r M),(by rw[oZ k (a0d _)];exact up_zero),M⟩ ?_
  rintro qS rg qX ⟨e2,e3,a4,b7,n,N,T,ch,an,Z,aa,dd,f0,kk,hF,e4,a5,a3,fd,f9,i1,rfl,hB,o0,lv,lz,i5,hn⟩ ka;refine au _ i1 (fun _=>?_);clear i1;have pu:=FAM.len fd;have pq:=FAM.len f9;have pD:=hB.len;have pF:=hB.row k M;have rA:((b7.getD k v_).length:Int)<=c.r:=Lst.len i5 po.1 (fun r h=>by have:=h.2;omega);refine am 2 V (aU 1 110 113 [] [(113,(decide ((n:Int)<c.r)))] (Hr_ 2 0 Hn_) e4 V V fun _=>zd 4 5 (fun pe=>?_) fun pe=>?_)
  ·have pD:=hB.len;have pF:=hB.row k M;obtain⟨qr,oR⟩:=Sv.view (OS.sv a3 e4 (i:=1) V);obtain⟨qy,oa,e5,dl,ih⟩:=SF.open f9 e4 (q:=2) (i:=k) V M;have dl:OS kk (sL (e2.getD k v_).a (e2.getD k v_).n (e2.getD k v_).k) (e3.getD k v_) oa:=dl;have qO:=OS.nlen dl;obtain⟨qs,j2⟩:=Sv.view (OS.sv dl e5 (i:=7) V);have rt:=fU (j2 (n/64));refine aU 1 116 129 [] [(129,(aJ .and .u64 (Int.fdiv ((e3.getD k v_).getD (n/64) v_).n (2^(Nat.min (n%64) 64))) 1==1))] (Hr_ 0 3 (Ha_ (Sv.ix (j:=(k:Int)) (OS.sv a3 e4 (i:=1) V)) (Hl_ 3 (ql 184 0 (vH (oR k)) V V) (Ha_ (vA (show(64:Int)≠0 from by decide) (vi (n:=((n/64:Nat):Int)))) (Ha_ (Sv.ix (j:=((n/64:Nat):Int)) (OS.sv dl e5 (i:=7) V)) (Hl_ 7 (ql 161 0 (vU (j2 (n/64))) V V) (Ha_ (show(64:Int)≠0 from by decide) (Ha_ (vu (n:=((n%64:Nat):Int)) M) (Ha_ (show(0:Int)<=((n%64:Nat):Int) from by omega) Hn_))))))))) e4 V V fun _=>zI 0 2 (fun pf=>?_) fun pf=>?_
   ·have b0:=km (s:=e3.getD k v_) (k:=n/64) (b:=n%64) X M;rw[show 64 *(n/64)+n%64=n by omega]at b0;refine ab ?_;obtain⟨qt,oT⟩:=Sv.view (OS.sv a5 e5 (i:=5) V);obtain⟨qz,ob,oJ,g2,ox⟩:=SF.open fd e5 (q:=6) (i:=k) V M;have g2:OS kk (sL (a4.getD k v_).a (a4.getD k v_).n (a4.getD k v_).k) (b7.getD k v_) ob:=g2;have qP:=OS.nlen g2;refine bK 7 0 130 136 [] [(130,(sL N a4.length T)),(131,(k:Int)),(135,(sL (a4.getD k v_).a (a4.getD k v_).n (a4.getD k v_).k)),(136,(n:Int))] (Ha_ (Sv.ix (j:=(k:Int)) (OS.sv a5 e5 (i:=5) V)) (Hl_ 5 (ql 22 0 (vH (oT k)) V V) Hn_)) K_ V fun _=>zlo [(n:Int)] oJ V (RL.cs ⟨V,M⟩ RL.nl) V fun q3 rJ rV qY oF jw=>zao 8 g2 jw (OS.sv oF jw (i:=9) V) V V V M fun hC hS rW qZ oG j1=>bK 1 9 139 139 [] [(139,(.pointer (some ⟨sB (sL N a4.length T),sO (sL N a4.length T)+k *Rp.sz Hd,none⟩)))] (Ha_ (Sv.ix (j:=(k:Int)) (OS.sv a5 j1 (i:=5) V)) Hn_) K_ V fun _=>?_
    obtain⟨oc,oK,i2⟩:=SF.shutN (⟨hC,((b7.getD k v_)++[(n:Int)]).length,hS⟩:Hd) ox fR j1 (q:=6) (m:=8) e_ V V oG;have qv:=FAM.len i2;refine cL (bW (α:=Hd) (j:=k) (off:=0) (q:=5) (⟨hC,((b7.getD k v_)++[(n:Int)]).length,hS⟩:Hd) a5 oK V V V V V V V V (aO (x:=v_) M) V (by rintro cs rfl;exact⟨a08 V,V⟩)) V ?_;rintro _ q0 p0 ⟨hK,oL,_⟩;have qk:=OS.len' hK;refine ae 2 V (wU 1 [] 114 115 [17] [(17,(iI ((n:Int)+1)))] (vi (n:=(n:Int)+1)) V fun _=>?_);obtain⟨oo,oM,i3⟩:=SF.shut0 ih fR oL (q:=2) (m:=7) e_ V V dl;have qw:=FAM.len i3;refine ka _ _ _ ?_ ⟨e2,e3,a4.set k (⟨hC,((b7.getD k v_)++[(n:Int)]).length,hS⟩:Hd),b7.set k ((b7.getD k v_)++[(n:Int)]),n+1,N,T,p0,an,Z,aa,oc,oo,_,(hF),(HS.sub oM (a01 _ _)),(OS.norm hK),a3,i2,i3,(agC V (agC V (agC (show Value.slice N a4.length T=Value.slice N (a4.set k (⟨hC,((b7.getD k v_)++[(n:Int)]).length,hS⟩:Hd)).length T by rw[OS.len' hK]) f_))),V,X,(by(rw[a0f];exact o0)),(fun r hr=>by(rw[cT M,if_neg M];exact lv r hr)),(fun r hr=>by(rw[cT M,if_neg M];exact lz r hr)),(by(rw[cT M,if_pos rfl];exact up_yes i5 (b0.1 X))),M⟩;omega
   have b0:=km (s:=e3.getD k v_) (k:=n/64) (b:=n%64) X M;rw[show 64 *(n/64)+n%64=n by omega]at b0;refine wU 1 [] 114 115 [17] [(17,(iI ((n:Int)+1)))] (vi (n:=(n:Int)+1)) V fun _=>?_
   obtain⟨ow,oO,i4⟩:=SF.shut0 ih fR e5 (q:=2) (m:=7) e_ V V dl;have qx:=FAM.len i4;refine ka _ _ _ ?_ ⟨e2,e3,a4,b7,n+1,N,T,ch,an,Z,aa,dd,ow,_,(hF),(HS.sub oO (a01 _ _)),a5,a3,fd,i4,f_,V,X,(o0),(fun r hr=>by exact lv r hr),(fun r hr=>by exact lz r hr),(up_no i5 (fun h=>absurd (b0.2 h) X)),M⟩;omega
  refine wU 1 [] 107 107 [140] [(107,(iI ((k:Int)+1)))] (vi (n:=(k:Int)+1)) V fun _=>?_
  refine oU _ _ _ ?_ ⟨e2,e3,a4,b7,k+1,N,T,ch,an,Z,aa,dd,f0,_,(fT (ii) hF),e4,a5,a3,fd,f9,f_,V,(hB),M,(fin_row hB M vF M lv i5),(fun r hr=>lz r M),M⟩;omega
 refine wT 1 [] 2 2 [141] [(2,(sL aq oh.length ar))] V fun _=>?_
 obtain⟨qT,ik,oP,oy⟩:=SF.freeze e6 jq (q:=6) V;replace ds:=ds.mono ik;obtain⟨qU,il,oQ,oH,qM⟩:=OS.frz ds oP (i:=5) V;have g3:=SR.rows oH (FAM.len e6) (fun i hi=>SR.mono il (oy i hi));have qQ:=SR.len' g3;have qp:=SR.norm g3;refine ak ⟨.inr V,_,V,aq,ar,ol,_,(fT (fT (fT (fT (fT (fT (it) hG) g6) g7) ii) ik) il),(HS.forget oQ),(Eq.trans (b:=Value.slice aq oh.length ar) V (by rw[SR.len' g3])),(SR.norm g3),(fun _=>inf_of qm M oY),(fun h=>absurd (hv.symm.trans h) e_)⟩
end nb
open nb
namespace nc
def usedI(v:VInT):List Int:=aE v++ah v
def usedB(b:BlkT):List Int:=b.v.flatMap usedI++d7 b
def usedC(c:VFnT):List Int:=c.u.flatMap usedB
def UsP(c:VFnT)(k n:Nat)(l:List Int):List Int:=(c.u.take k).flatMap usedB++((bH c k).v.take n).flatMap usedI++l
structure CntF(c:VFnT)(L o:List Int):Prop where
 len:o.length=c.r.toNat
 at_: ∀r,r<c.r.toNat->o.getD r 0=(L.count (r:Int):Int)
theorem kA{c}:CntF c (UsP c 0 0 []) (List.replicate c.r.toNat 0):=⟨a0K,fun r A=>by
 have e:UsP c 0 0 []=[]:=by unfold UsP;simp
 rw[e,a03,a1w,if_pos A];rfl⟩
theorem cnt_step{c k n l o}{x:Int}(h:CntF c (UsP c k n l) o)(U:0<=x/\x<c.r):CntF c (UsP c k n (l++[x])) (o.set x.toNat (o.getD x.toNat 0+1)):=⟨a0f.trans h.len,fun r N=>by
 have e:UsP c k n (l++[x])=UsP c k n l++[x]:=(a0l _ _ _).symm;rw[e,List.count_append,List.count_singleton];have T:=h.len;by_cases A:x.toNat=r
 ·subst A;have E:((x.toNat:Nat):Int)=x:=M
  rw[a03,List.getElem?_set_self M,a0O,h.at_ _ N,E];simp
 rw[a03,a1X A,←a03,h.at_ r N,if_neg l_];simp⟩
theorem cnt_rng{c L o}{x:Int}(h:CntF c L o)(E:0<=x/\x<c.r)(A:L.length<=1125899906842624):0<=o.getD x.toNat 0/\o.getD x.toNat 0<=1125899906842624/\x.toNat<o.length:=by rw[h.at_ _ M,h.len];have:=List.count_le_length (a:=((x.toNat:Nat):Int)) (l:=L);omega
theorem us_instr{c k n}(A:n<(bH c k).v.length):UsP c k n (aE ((bH c k).v.getD n default)++ah ((bH c k).v.getD n default))=UsP c k (n+1) []:=by unfold UsP;rw[bx A (d:=default),a2r,a0p];simp[usedI]
theorem us_block{c k}(A:k<c.u.length):UsP c k (bH c k).v.length (d7 (bH c k))=UsP c (k+1) 0 []:=by unfold UsP;rw[bx A (d:=default),a2r,a1e];simp[usedB,bH]
theorem us_all{c k}(A:c.u.length<=k):UsP c k 0 []=usedC c:=by unfold UsP usedC;rw[a0h A];simp
theorem fm_len{α:Type}{f:α->List Int}{B:Nat}: ∀{l:List α},(∀x∈l,(f x).length<=B)->(l.flatMap f).length<=l.length *B
 | [],_=>a0r _
 |x::l,h=>by
  have A:=fm_len (l:=l) fun y N=>h y (a0i _ N)
  have E:=h x (a0q ..);rw[List.flatMap_cons,a02,a04,a1r];omega
theorem us_len{c:VFnT}{k n:Nat}{l:List Int}(v:VF c)(aa: ∀j,(bH c j).v.length<=1073741824)(hk:k<c.u.length)(hl:l.length<=20):(UsP c k n l).length<=1125899906842624:=by
 have hI: ∀b,b<c.u.length->∀x∈(bH c b).v,(usedI x).length<=10:=fun b hb x hx=>by obtain⟨i,hi,rfl⟩:=a0x.1 hx;have A:=v.v b hb i hi;rw[a03,a06 hi,a0O]at A;have E:=eD (v:=(bH c b).v[i]);have N:=dM (v:=(bH c b).v[i]);have T:=(bD A).2.2;unfold usedI;rw[a02];omega
 have hB: ∀x∈c.u.take k,(usedB x).length<=10737418241:=fun x hx=>by
  obtain⟨b,hb,rfl⟩:=a0x.1 (a1b hx);have e:c.u[b]=bH c b:=by unfold bH;rw[a03,a06 hb];rfl
  rw[e];have A:=fm_len (hI b hb);have E:=aa b;have N:(d7 (bH c b)).length<=1:=by unfold d7;split<;>simp
  unfold usedB;rw[a02];omega
 have A:=fm_len hB;have E:=fm_len (l:=(bH c k).v.take n) fun x hx=>hI k hk x (a1b hx)
 have N:=aa k;have T:=v.nb;have U:(c.u.take k).length<=1000:=by rw[a0o];omega
 have a_:((bH c k).v.take n).length<=1073741824:=by rw[a0o];omega
 unfold UsP;rw[a02,a02];have Z:(c.u.take k).length *10737418241<=1000 *10737418241:=a0B _ U;omega
end nc
open nc
namespace ni
variable (ex:FuncId) {F:Fz} {H:Heap} {R:List Fp}
theorem e0_iff{c k n}(T:(bH c k).v.length=n)(a x:Nat):E1 c k n a x↔E0 c (k+1) a x:=by
 unfold E1 E0;constructor
 ·rintro(⟨b,i,E,A⟩|⟨i,E,A⟩)
  ·exact⟨b,i,M,A⟩
  exact⟨k,i,a1u _,M,A⟩
 rintro⟨b,i,E,A,N⟩;rcases a0k b k with hb|hb
 ·exact .inl ⟨b,i,hb,A,N⟩
 have:b=k:=M
 subst this;exact .inr ⟨i,M,N⟩
theorem e1_iff{c k}(a x:Nat):E0 c k a x↔E1 c k 0 a x:=⟨.inl,fun h=>h.elim id fun⟨i,h,_⟩=>absurd h (a0D _)⟩
theorem e1s_iff{c k n q}(N:(ah (lX c k n)).length<=q)(a x:Nat):E2 c k n q a x↔E1 c k (n+1) a x:=by
 unfold E2 E1;rw[a0h N];constructor
 ·rintro((h|⟨i,E,A⟩)|h)
  ·exact .inl h
  ·exact .inr ⟨i,M,A⟩
  exact .inr ⟨n,a1u _,h⟩
 rintro(h|⟨i,E,A⟩)
 ·exact .inl (.inl h)
 rcases a0k i n with hi|hi
 ·exact .inl (.inr ⟨i,hi,A⟩)
 have:i=n:=M
 subst this;exact .inr A
theorem e2_iff{c k n}(a x:Nat):E1 c k n a x↔E2 c k n 0 a x:=⟨.inl,fun h=>h.elim id fun h=>by simp at h⟩
theorem e2s_iff{c k n q p l}(T:Lst l (ptS c k (n+1)))(Z:q<(ah (lX c k n)).length)(U:l.length<=p)(a x:Nat):E3 c k n q l p a x↔E2 c k n (q+1) a x:=by
 unfold E3 E2;rw[a0h U,bx Z (d:=0),a09,a0b,T.mem];have e:((x:Int)).toNat=x:=M
 rw[e];constructor
 ·rintro((h|⟨A,E,N⟩)|⟨A,⟨_,E⟩,N⟩)
  ·exact .inl h
  ·exact .inr ⟨.inl A,E,N⟩
  exact .inr ⟨.inr A,E,N⟩
 rintro(h|⟨A|A,E,N⟩)
 ·exact .inl (.inl h)
 ·exact .inl (.inr ⟨A,E,N⟩)
 exact .inr ⟨A,⟨M,E⟩,N⟩
theorem e3_iff{c k n q l}(a x:Nat):E2 c k n q a x↔E3 c k n q l 0 a x:=⟨.inl,fun h=>h.elim id fun h=>by simp at h⟩
structure RlF(c:VFnT)(g:List (List Int))(R:Nat->Nat->Prop):Prop where
 len:g.length=c.r.toNat
 row: ∀r,r<c.r.toNat->Lst (g.getD r v_) (Sy R r)
 rng: ∀r,(g.getD r v_).length<=3000/\∀x∈g.getD r v_,0<=x/\x<c.r
theorem RlF.iff{c g R A}(h:RlF c g R)(k: ∀a x,R a x↔A a x):RlF c g A:=⟨h.len,fun r E=>Lst.ext (h.row r E) fun y=>Sy.iff k r y,h.rng⟩
theorem rl_zero{c}:RlF c (List.replicate c.r.toNat ([]:List Int)) (E0 c 0):=by
 have e: ∀r,(List.replicate c.r.toNat ([]:List Int)).getD r v_=[]:=fun r=>by rw[a03,a1w];split<;>rfl
 refine⟨a0K,fun r _=>?_,fun r=>?_⟩
 ·rw[e];exact Lst.nil fun y h=>by rcases h with⟨b,_,h,_⟩|⟨b,_,h,_⟩<;>exact absurd h (a0D _)
 rw[e];exact⟨a0r _,fun x A=>by cases A⟩
theorem rl_yes{c}(v:VF c){g k n q p l}(hp:p<l.length)(h:RlF c g (E3 c k n q l p))(hn:eok c k n ((ah (lX c k n)).getD q 0) (l.getD p 0))(Z:0<=(ah (lX c k n)).getD q 0/\(ah (lX c k n)).getD q 0<c.r)(hx:0<=l.getD p 0/\l.getD p 0<c.r):
  RlF c ((g.set ((ah (lX c k n)).getD q 0).toNat (dI (g.getD ((ah (lX c k n)).getD q 0).toNat v_) (l.getD p 0))).set (l.getD p 0).toNat (dI (g.getD (l.getD p 0).toNat v_) ((ah (lX c k n)).getD q 0))) (E3 c k n q l (p+1)):=by
 generalize ea:(ah (lX c k n)).getD q 0=a at *
 generalize ex:l.getD p 0=x at *
 have hl:=h.len
 have hr:=v.r
 have ag:a.toNat≠x.toNat:=fun e=>hn.1 M
 have e: ∀r,((g.set a.toNat (dI (g.getD a.toNat v_) x)).set x.toNat (dI (g.getD x.toNat v_) a)).getD r v_=if x.toNat=r then dI (g.getD r v_) a else if a.toNat=r then dI (g.getD r v_) x else g.getD r v_:=fun r=>by
  rw[ee,ee];by_cases N:x.toNat=r
  ·subst N;rw[if_pos ⟨V,by rw[a0f];omega⟩,if_pos rfl]
  rw[if_neg (fun A=>N A.1),if_neg N];by_cases T:a.toNat=r
  ·subst T;rw[if_pos ⟨V,M⟩,if_pos rfl]
  rw[if_neg (fun A=>T A.1),if_neg T]
 have E: ∀r y,Sy (E3 c k n q l (p+1)) r y↔Sy (E3 c k n q l p) r y\/(r=a.toNat/\y=x.toNat)\/(r=x.toNat/\y=a.toNat):=fun r y=>by
  unfold Sy;rw[jv hp,jv hp,ea,ex];constructor
  ·rintro((N|⟨N,A,_⟩)|(N|⟨N,A,_⟩))
   ·exact .inl (.inl N)
   ·exact .inr (.inl ⟨M,M⟩)
   ·exact .inl (.inr N)
   exact .inr (.inr ⟨M,M⟩)
  rintro((N|N)|⟨N,A⟩|⟨N,A⟩)
  ·exact .inl (.inl N)
  ·exact .inr (.inl N)
  ·subst N A;exact .inl (.inr ⟨M,M,eok_of hn Z.1 hx.1⟩)
  subst N A;exact .inr (.inr ⟨M,M,eok_of hn Z.1 hx.1⟩)
 have R: ∀r,∀y∈((g.set a.toNat (dI (g.getD a.toNat v_) x)).set x.toNat (dI (g.getD x.toNat v_) a)).getD r v_,0<=y/\y<c.r:=fun r y U=>by
  rw[e]at U;split at U
  ·rcases ic.1 U with rfl|U
   ·exact Z
   exact(h.rng r).2 y U
  split at U
  ·rcases ic.1 U with rfl|U
   ·exact hx
   exact(h.rng r).2 y U
  exact(h.rng r).2 y U
 have W: ∀r,r<c.r.toNat->Lst (((g.set a.toNat (dI (g.getD a.toNat v_) x)).set x.toNat (dI (g.getD x.toNat v_) a)).getD r v_) (Sy (E3 c k n q l (p+1)) r):=fun r al=>by
  rw[e];have h0:=h.row r al;split
  ·rename_i N;refine Lst.ext (Lst.v h0 Z.1) fun y=>?_
   rw[E];constructor
   ·rintro(A|A)
    ·exact .inl A
    exact .inr (.inr ⟨N.symm,M⟩)
   rintro(A|⟨A,_⟩|⟨_,A⟩)
   ·exact .inl A
   ·exact absurd (A.symm.trans N.symm) ag
   exact .inr M
  rename_i N;split
  ·rename_i T;refine Lst.ext (Lst.v h0 hx.1) fun y=>?_
   rw[E];constructor
   ·rintro(A|A)
    ·exact .inl A
    exact .inr (.inl ⟨T.symm,M⟩)
   rintro(A|⟨_,A⟩|⟨A,_⟩)
   ·exact .inl A
   ·exact .inr M
   exact absurd A.symm N
  rename_i T;refine Lst.ext h0 fun y=>?_
  rw[E];constructor
  ·exact .inl
  rintro(A|⟨A,_⟩|⟨A,_⟩)
  ·exact A
  ·exact absurd A.symm T
  exact absurd A.symm N
 refine⟨by rw[a0f,a0f];exact hl,W,fun r=>⟨?_,R r⟩⟩
 rcases a0k r c.r.toNat with N|N
 ·have:=lQ 0 hr.1 (W r N).asc (R r);omega
 rw[bZ (by rw[a0f,a0f];omega)];exact a0r _
theorem rl_no{c g k n q p l}(U:p<l.length)(h:RlF c g (E3 c k n q l p))(T: ¬eok c k n ((ah (lX c k n)).getD q 0) (l.getD p 0)):RlF c g (E3 c k n q l (p+1)):=h.iff fun a x=>by rw[jv U];exact⟨.inl,fun h=>h.elim id fun⟨E,N,A⟩=>absurd (by rw[E,N]at A;exact A) T⟩
theorem end_rng{c b}(v:VF c)(E:b<c.u.length): ∀x∈d7 (bH c b),0<=x/\x<c.r:=fun x A=>by
 unfold d7 at A;split at A
 ·rename_i h;rw[a0b]at A;subst A;exact v.f b E h
 cases A
theorem rl_fin{c g b}(E:c.u.length<=b)(A:b<=c.u.length)(h:RlF c g (E0 c b)):InF c g:=by
 have e:b=c.u.length:=M
 subst e;exact⟨h.len,h.row⟩
theorem nA{b6 c8}(c:VFnT)(hs:Hb H F H [] R)(lf:in64 c.m)(ll:in64 c.r)(aa:Sr F b6 c.u c8)(hT:TB 37 tabC F)(an: ∀j,(c.u.getD j v_).v.length<=1073741822):kKt ex 29 [(aG [c.m,c.r,(S_ b6 c.u c8)])] H fun v H'=> ∃ag,∃(kg:Nat) (g:List (List Int)),∃F',F.le F'/\Hb H F' H' [] R/\v=sL ag g.length kg/\Sr F' ag g kg/\(cb c=true->InF c g)/\(cb c=false->g=[]):=by
 refine aB Tryz.func29 V V (am 1 V (ab (aT (aN hs V V) V V ?_)));rintro _ H2 _ ⟨b1,rfl,f3,_⟩;let hu:Value:=(aG [c.m,c.r,(S_ b6 c.u c8)])
 refine za N_ (ae 3 V (ab (aS 1 0 12 12 [] [(12,hu)] (Hr_ 0 0 Hn_) f3 V V fun _=>zc (m3.eN ex c (HS.call f3) M M aa hT (fun j=>a0e (an j) M)) ?_)));rintro _ H4 ⟨r4,F4,e0,dd,rfl,rfl⟩;replace dd:=HS.back f3 V dd;replace hT:=hT.mono e0;replace aa:=aa.mono e0;refine bK 1 2 14 14 [] [(14,(!(cb c)))] Hn_ K_ V fun _=>ae 1 V (zI 1 2 (fun c6=>?_) fun c6=>?_)
 ·have hv:=c6;refine wT 1 [] 2 2 [] [(2,N_)] V fun _=>ak ⟨.inr V,_,V,none,0,([]:List (List Int)),_,(e0),(HS.forget dd),V,(SR.nil:SR F4 N_ ([]:List (List Int))),(fun h=>absurd (h.symm.trans hv) e_),(fun _=>rfl)⟩
 have hv:=c6;have vF:=e9 hv;have oW:=vF.nb;have js:=vF.r;refine ab (aS 2 0 15 16 [] [(16,c.r)] (Hr_ 1 0 Hn_) dd V V fun _=>aT (cS ([]:(List Int)) dd V V V V V V V V V ⟨none,0,V,SR.nil⟩ M M) V V ?_);rintro _ nx p9 ⟨a9,k9,rfl,ih,hF,_⟩;let e3:Fp:=(fP b1 [c.m,c.r,(S_ b6 c.u c8)])
 refine za (sL a9 (List.replicate c.r.toNat ([]:(List Int))).length k9) (ae 3 V (wT 2 [] 1 0 [4] [(4,(iI 0))] V fun _=>aj (fun(mm:Nat) f H'=> ∃(g1:List (List Int)) (b:Nat),∃ar,∃(av:Nat),∃bb F',F4.le F'/\Hb H F' H' [e3,bb] R/\OZ F' ar g1 av bb/\aA f [(1,(pT b1 0)),(3,(S_ ar g1 av)),(4,(b:Int))]/\mm=c.u.length-b/\(RlF c g1 (E0 c b))/\(b<=c.u.length)) _ ⟨List.replicate c.r.toNat ([]:(List Int)),0,a9,k9,p9,_,fR,hF,ih,f_,V,(rl_zero),M⟩ ?_));rintro l0 oa n1 ⟨g1,b,ar,av,bb,l9,b8,b4,a7,fj,rfl,hl,hb⟩ hI;refine au _ fj (fun _=>?_);clear fj;replace hT:=hT.mono b8;replace aa:=aa.mono b8;refine am 2 V (aU 1 18 22 [] [(22,(decide ((b:Int)<(c.u.length:Int))))] (Hr_ 2 0 Hn_) b4 V V fun _=>zd 4 5 (fun h7=>?_) fun h7=>?_)
 ·have a6:b<c.u.length:=M
  have oU:=an b;refine ab (aS 2 0 25 26 [] [(25,hu),(26,(b:Int))] (Hr_ 0 0 Hn_) b4 V V fun _=>zc (mj.rlp_c ex c (b:Int) (HS.call b4) M M aa M hT (fun j=>a0e (an j) M)) ?_);rintro _ n2 ⟨bk,bz,A,hS,b9,d1,rfl,ap,k7,k6⟩;replace d1:=HS.back b4 V d1;replace a7:=a7.mono b9;refine za (S_ bk A bz) (ae 2 V ?_);have pf:PtF c b A:=(by assumption:cb c=true->0<=((b:Nat):Int)->((b:Nat):Int)<(c.u.length:Int)->PtF c ((b:Nat):Int).toNat A) hv M M;have oX:(A).length=(c.u.getD b v_).v.length+1:=pf.len;refine wT 2 [] 1 0 [6] [(6,(iI 0))] V fun _=>aj (fun(mm:Nat) f H'=> ∃(g2:List (List Int)) (k:Nat),∃ay,∃(a2:Nat),∃a4 F',hS.le F'/\Hb H F' H' [e3,a4] R/\OZ F' ay g2 a2 a4/\aA f [(1,(pT b1 0)),(3,(S_ ay g2 a2)),(4,(b:Int)),(5,(S_ bk A bz)),(6,(k:Int))]/\mm=(c.u.getD b v_).v.length-k/\(RlF c g2 (E1 c b k))/\(k<=(c.u.getD b v_).v.length)) _ ⟨g1,0,ar,av,bb,_,fR,d1,a7,f_,V,(hl.iff e1_iff),M⟩ ?_
  rintro l1 ob n3 ⟨g2,k,ay,a2,a4,mk,b2,aq,a8,f0,rfl,hn,hk⟩ hJ;refine au _ f0 (fun _=>?_);clear f0;replace hT:=(hT.mono b9).mono b2;replace aa:=(aa.mono b9).mono b2;replace ap:=ap.mono b2;refine am 2 V ?_;obtain⟨kx,f5⟩:=Sv.view (SR.sv aa aq);obtain⟨it,iv,iz,i1,ki⟩:=BlkT.fx (f5 b);refine aU 1 28 36 [] [(36,(decide ((k:Int)<((c.u.getD b v_).v.length:Int))))] (Hr_ 2 0 (Ha_ (Sv.ix (j:=(b:Int)) (SR.sv aa aq)) (Hl_ 6 (ql 80 0 (BlkT.vw (f5 b)) V V) Hn_))) aq V V fun _=>zd 4 5 (fun h8=>?_) fun h8=>?_
  ·have dj:k<(c.u.getD b v_).v.length:=M
   have pt:Lst ((A).getD (((k:Nat):Int)+1).toNat v_) (ptS c b (k+1)):=pf.pt (k+1) dj;have oT:=Lst.len pt js.1 (fun r h=>iH vF a6 h);have al: ∀x∈ah ((c.u.getD b v_).v.getD k v_),0<=x/\x<c.r:=(bD (vF.v b a6 k dj)).2.1;have oD:=dM (v:=((c.u.getD b v_).v.getD k v_));refine ab ?_;obtain⟨ky,f6⟩:=Sv.view (SR.sv aa aq);obtain⟨i2,i3,i4,i5,e2⟩:=BlkT.fx (f6 b);obtain⟨b7,f7⟩:=Sv.view (SR.sv e2 aq);obtain⟨jb,jq,jw,j1,j2,hf⟩:=VInT.fx (f7 k);let hw:Value:=(aG [((c.u.getD b v_).v.getD k v_).i.op,((c.u.getD b v_).v.getD k v_).i.a,((c.u.getD b v_).v.getD k v_).i.b,((c.u.getD b v_).v.getD k v_).i.c,((c.u.getD b v_).v.getD k v_).i.n,(sL (cA (b7 k) 5) ((c.u.getD b v_).v.getD k v_).args.length (cK (b7 k) 5))])
   refine aS 9 0 39 47 [] [(47,hw)] (Hr_ 1 0 (Ha_ (Sv.ix (j:=(b:Int)) (SR.sv aa aq)) (Hl_ 5 (ql 80 0 (BlkT.vw (f6 b)) V V) (Ha_ (Sv.ix (j:=(k:Int)) (SR.sv e2 aq)) (Hl_ 8 (qn 88 0 6 (VInT.vw (f7 k)) V V V V) Hn_))))) aq V V fun _=>zn aq V fun e5 n4 hG=>sgo 1 10 1 0 [] [] (Hr_ 10 2 Hn_) hG V V fun k5 n5 d2=>ae 2 V (ab (aS 1 0 48 48 [] [(48,hw)] (Hr_ 0 2 Hn_) d2 V V fun _=>?_))
   refine zc (ma.iF ex ((c.u.getD b v_).v.getD k v_) (HS.call d2) M M M M M hf hT) ?_;rintro _ n6 ⟨dl,ez,oE,hq,hV,cc,em,rfl,T,rfl⟩;replace em:=HS.back d2 V em;replace a8:=a8.mono cc;let hz:Fp:=(fP e5 [((c.u.getD b v_).v.getD k v_).i.op,((c.u.getD b v_).v.getD k v_).i.a,((c.u.getD b v_).v.getD k v_).i.b,((c.u.getD b v_).v.getD k v_).i.c,((c.u.getD b v_).v.getD k v_).i.n,(sL (cA (b7 k) 5) ((c.u.getD b v_).v.getD k v_).args.length (cK (b7 k) 5))])
   refine za (sL dl (ah ((c.u.getD b v_).v.getD k v_)).length ez) (ae 2 V (wT 2 [] 1 0 [9] [(9,(iI 0))] V fun _=>aj (fun(mm:Nat) f H'=> ∃(g3:List (List Int)) (i:Nat),∃a1,∃(a3:Nat),∃a5 F',hV.le F'/\Hb H F' H' [e3,a5,hz,hq] R/\OZ F' a1 g3 a3 a5/\aA f [(1,(pT b1 0)),(3,(S_ a1 g3 a3)),(4,(b:Int)),(5,(S_ bk A bz)),(6,(k:Int)),(7,(pT e5 0)),(8,(sL dl (ah ((c.u.getD b v_).v.getD k v_)).length ez)),(9,(i:Int))]/\mm=(ah ((c.u.getD b v_).v.getD k v_)).length-i/\(RlF c g3 (E2 c b k i))/\(i<=(ah ((c.u.getD b v_).v.getD k v_)).length)) _ ⟨g2,0,ay,a2,a4,_,fR,em,a8,f_,V,(hn.iff e2_iff),M⟩ ?_));rintro l2 oc n7 ⟨g3,i,a1,a3,a5,hW,b3,f4,dk,f1,rfl,hp,hi⟩ hK;refine au _ f1 (fun _=>?_);clear f1;replace hT:=(hT.mono cc).mono b3;replace ap:=(ap.mono cc).mono b3;replace T:=T.mono b3;refine am 2 V (wT 1 [] 50 53 [] [(53,(decide ((i:Int)<((ah ((c.u.getD b v_).v.getD k v_)).length:Int))))] V fun _=>zd 4 5 (fun h9=>?_) fun h9=>?_)
   ·have ks:=dm al (k:=i) M;refine wT 2 [] 1 0 [10] [(10,(iI 0))] V fun _=>aj (fun(mm:Nat) f H'=> ∃(g4:List (List Int)) (j:Nat),∃U,∃(a_:Nat),∃aw F',hW.le F'/\Hb H F' H' [e3,aw,hz,hq] R/\OZ F' U g4 a_ aw/\aA f [(1,(pT b1 0)),(3,(S_ U g4 a_)),(4,(b:Int)),(5,(S_ bk A bz)),(6,(k:Int)),(7,(pT e5 0)),(8,(sL dl (ah ((c.u.getD b v_).v.getD k v_)).length ez)),(9,(i:Int)),(10,(j:Int))]/\mm=((A).getD (((k:Nat):Int)+1).toNat v_).length-j/\(RlF c g4 (E3 c b k i ((A).getD (((k:Nat):Int)+1).toNat v_) j))/\(j<=((A).getD (((k:Nat):Int)+1).toNat v_).length)) _ ⟨g3,0,a1,a3,a5,_,fR,f4,dk,f_,V,(hp.iff e3_iff),M⟩ ?_
    rintro l3 oh hg ⟨g4,j,U,a_,aw,mx,bl,E,N,f2,rfl,b5,hj⟩ g6;refine au _ f2 (fun _=>?_);clear f2;replace hT:=hT.mono bl;replace ap:=ap.mono bl;replace T:=T.mono bl;refine am 2 V (ab (wTo 3 0 [] 56 58 [] [(56,(j:Int)),(57,(S_ bk A bz)),(58,(k:Int))] V fun _=>zc (mh.oj ex A (k:Int) (HS.call E) ap M hT M) ?_));rintro _ hg ⟨kp,lv,oF,rfl,rfl,kd,rfl⟩;refine wTo 2 4 [] 60 61 [] [(61,(decide ((j:Int)<((A.getD ((k:Int)+1).toNat v_).length:Int))))] V fun _=>ae 1 V (zd 4 5 (fun ib=>?_) fun ib=>?_)
    ·have k8:0<=(((A).getD (((k:Nat):Int)+1).toNat v_).getD j 0)/\(((A).getD (((k:Nat):Int)+1).toNat v_).getD j 0)<c.r:=by(have hm:=(pt.mem _).1 (jJ (l:=((A).getD (((k:Nat):Int)+1).toNat v_)) (q:=j) M);have hh:=iH vF a6 hm.2;omega)
     refine ab (bK 2 0 64 65 [] [(64,(S_ bk A bz)),(65,(k:Int))] Hn_ K_ V fun _=>zc (mh.oj ex A (k:Int) (HS.call E) ap M hT M) ?_);rintro _ hg ⟨kr,lz,oG,rfl,rfl,e1,rfl⟩;obtain⟨kz,f8⟩:=Sv.view (SR.sv e1 E);have ol:=fI (f8 j);refine bK 4 3 67 69 [11] [(11,((A.getD ((k:Int)+1).toNat v_).getD j 0))] (Ha_ (Sv.ix (j:=(j:Int)) (SR.sv e1 E)) (Hl_ 5 (ql 3 0 (vI (f8 j)) V V) Hn_)) K_ V fun _=>ae 2 V ?_
     obtain⟨k0,f9⟩:=Sv.view (OS.sv T E (i:=3) V);have oo:=fI (f9 i);refine wrp 1 70 89 [] [(89,((((A.getD ((k:Int)+1).toNat v_).getD j 0) !=((ah ((c.u.getD b v_).v.getD k v_)).getD i 0))&&(!((((c.u.getD b v_).v.getD k v_).i.op==10)&&(((A.getD ((k:Int)+1).toNat v_).getD j 0)==((c.u.getD b v_).v.getD k v_).i.b)))))] (Ha_ (Sv.ix (j:=(i:Int)) (OS.sv T E (i:=3) V)) (Hl_ 4 (ql 3 0 (vI (f9 i)) V V) (bp 9 (fun _=>(ql 3 0 (j_ E V) V V)) (iu 15 (fun _ _=>(ql 3 2 (j_ E V) V V)) Hn_)))) V V fun _=>zI 0 2 (fun e6=>?_) fun e6=>?_
     ·have dv:=e6;have b0:eok c b k ((ah ((c.u.getD b v_).v.getD k v_)).getD i 0) (((A).getD (((k:Nat):Int)+1).toNat v_).getD j 0):=⟨dv.1,fun h=>by have h2:=dv.2;simp_all⟩
      have oV:=b5.len;have oy:=(b5.rng ((ah ((c.u.getD b v_).v.getD k v_)).getD i 0).toNat).1;have oz:=(b5.rng (((A).getD (((k:Nat):Int)+1).toNat v_).getD j 0).toNat).1;refine aC V ?_;obtain⟨k3,et⟩:=Sv.view (OS.sv T E (i:=3) V);have ow:=fI (et i);obtain⟨fd,go⟩:=Sv.view (OS.sv N E (i:=1) V);have ik:=fL (go (((ah ((c.u.getD b v_).v.getD k v_)).getD i 0).toNat));refine cN 15 90 104 [] [(90,(S_ U g4 a_)),(94,((ah ((c.u.getD b v_).v.getD k v_)).getD i 0)),(95,(S_ U g4 a_)),(96,((A.getD ((k:Int)+1).toNat v_).getD j 0)),(103,(sL (cA (fd (((ah ((c.u.getD b v_).v.getD k v_)).getD i 0).toNat)) 0) (g4.getD (((ah ((c.u.getD b v_).v.getD k v_)).getD i 0).toNat) v_).length (cK (fd (((ah ((c.u.getD b v_).v.getD k v_)).getD i 0).toNat)) 0))),(104,((A.getD ((k:Int)+1).toNat v_).getD j 0))] (Ha_ (Sv.ix (j:=(i:Int)) (OS.sv T E (i:=3) V)) (Hl_ 4 (ql 3 0 (hc0 (vI (et i))) V V) (Ha_ (Sv.ix (j:=(i:Int)) (OS.sv T E (i:=3) V)) (Hl_ 11 (ql 3 0 (hc0 (vI (et i))) V V) (Ha_ (Sv.ix (j:=((ah ((c.u.getD b v_).v.getD k v_)).getD i 0)) (OS.sv N E (i:=1) V)) (Hl_ 13 (ql 22 0 (hc0 (vL (go (((ah ((c.u.getD b v_).v.getD k v_)).getD i 0).toNat)))) V V) Hn_)))))) E V V fun _=>aQ (W:=[]) (aP V V V) V V V (m6.dH ex (g4.getD (((ah ((c.u.getD b v_).v.getD k v_)).getD i 0).toNat) v_) ((A.getD ((k:Int)+1).toNat v_).getD j 0) (HS.call E.log0) ik M hT M) q_ ?_
      rintro _ hY ⟨hA,hL,oH,mI,ch,Z,rfl,c5,rfl⟩;refine⟨Wr.did Z.log,fun hO g7=>?_⟩;replace Z:=HS.back E.log0 V Z;replace Z:=HS.lg Z E g7;generalize ({hY with log:=hO}:Heap)=kk at Z⊢;replace hT:=hT.mono ch;replace T:=T.mono ch;replace N:=N.mono ch;obtain⟨fi,gt⟩:=Sv.view (OS.sv N Z (i:=1) V);have il:=fL (gt (((A.getD ((k:Int)+1).toNat v_).getD j 0).toNat));obtain⟨k4,g5⟩:=Sv.view (OS.sv T Z (i:=3) V);have ox:=fI (g5 i);refine cN 8 106 113 [] [(109,(sL (cA (fi (((A.getD ((k:Int)+1).toNat v_).getD j 0).toNat)) 0) (g4.getD (((A.getD ((k:Int)+1).toNat v_).getD j 0).toNat) v_).length (cK (fi (((A.getD ((k:Int)+1).toNat v_).getD j 0).toNat)) 0))),(113,((ah ((c.u.getD b v_).v.getD k v_)).getD i 0))] (Ha_ (Sv.ix (j:=((A.getD ((k:Int)+1).toNat v_).getD j 0)) (OS.sv N Z (i:=1) V)) (Hl_ 19 (ql 22 0 (hc0 (vL (gt (((A.getD ((k:Int)+1).toNat v_).getD j 0).toNat)))) V V) (Ha_ (Sv.ix (j:=(i:Int)) (OS.sv T Z (i:=3) V)) (Hl_ 23 (ql 3 0 (hc0 (vI (g5 i))) V V) Hn_)))) Z V V fun _=>aQ (W:=[]) (aP V V V) V V V (m6.dH ex (g4.getD (((A.getD ((k:Int)+1).toNat v_).getD j 0).toNat) v_) ((ah ((c.u.getD b v_).v.getD k v_)).getD i 0) (HS.call Z.log0) il M hT M) q_ ?_
      rintro _ h3 ⟨hB,hM,oI,m0,dt,ax,rfl,he,rfl⟩;refine⟨Wr.did ax.log,fun hP g8=>?_⟩;replace ax:=HS.back Z.log0 V ax;replace ax:=HS.lg ax Z g8;generalize ({h3 with log:=hP}:Heap)=kl at ax⊢;replace c5:=c5.mono dt;replace N:=N.mono dt;refine zy (List Int) ((ah ((c.u.getD b v_).v.getD k v_)).getD i 0) (OS.sv N ax.log0 (i:=1) V) (gc (id:= .x (aw.map Prod.fst)) (bW (α:=(List Int)) (j:=((ah ((c.u.getD b v_).v.getD k v_)).getD i 0).toNat) (off:=0) (q:=1) (dI (g4.getD (((ah ((c.u.getD b v_).v.getD k v_)).getD i 0).toNat) v_) ((A.getD ((k:Int)+1).toNat v_).getD j 0)) N ax.log0 V V V V V V V V (aO (x:=v_) M) V (by rintro cs ⟨_,_,rfl,_⟩;exact⟨a08 V,⟨hA,hL,V,c5⟩⟩)) V (by rintro _ _ hr ⟨ci,_,al⟩;exact dh V V (Wr.did al)) (kb V) ?_);rintro _ h4 hr ⟨ci,bt,_⟩ hQ g9;replace bt:=HS.lg bt ax g9;generalize ({h4 with log:=hQ}:Heap)=kn at bt⊢;have ka:=OS.len' ci;refine zy (List Int) ((A.getD ((k:Int)+1).toNat v_).getD j 0) (OS.sv ci bt.log0 (i:=1) V) (gc (id:= .x (hr.map Prod.fst)) (bW (α:=(List Int)) (j:=((A.getD ((k:Int)+1).toNat v_).getD j 0).toNat) (off:=0) (q:=1) (dI (g4.getD (((A.getD ((k:Int)+1).toNat v_).getD j 0).toNat) v_) ((ah ((c.u.getD b v_).v.getD k v_)).getD i 0)) ci bt.log0 V V V V V V V V (aO (x:=v_) M) V (by rintro cs ⟨_,_,rfl,_⟩;exact⟨a08 V,⟨hB,hM,V,he⟩⟩)) V (by rintro _ _ ht ⟨co,_,al⟩;exact dh V V (Wr.did al)) (kb V) ?_);rintro _ h5 ht ⟨co,c7,_⟩ hR ha;replace c7:=HS.lg c7 bt ha;generalize ({h5 with log:=hR}:Heap)=ko at c7⊢;have kc:=OS.len' co;refine aW 2 V (wU 1 [] 62 63 [10] [(10,(iI ((j:Int)+1)))] (vi (n:=(j:Int)+1)) V fun _=>?_);refine g6 _ _ _ ?_ ⟨(g4.set (((ah ((c.u.getD b v_).v.getD k v_)).getD i 0).toNat) (dI (g4.getD (((ah ((c.u.getD b v_).v.getD k v_)).getD i 0).toNat) v_) ((A.getD ((k:Int)+1).toNat v_).getD j 0))).set (((A.getD ((k:Int)+1).toNat v_).getD j 0).toNat) (dI (g4.getD (((A.getD ((k:Int)+1).toNat v_).getD j 0).toNat) v_) ((ah ((c.u.getD b v_).v.getD k v_)).getD i 0)),j+1,U,a_,ht,_,(fT (fT (bl) ch) dt),c7,(OS.norm co),(agC V (agC (show Value.slice U g4.length a_=Value.slice U ((g4.set (((ah ((c.u.getD b v_).v.getD k v_)).getD i 0).toNat) (dI (g4.getD (((ah ((c.u.getD b v_).v.getD k v_)).getD i 0).toNat) v_) ((A.getD ((k:Int)+1).toNat v_).getD j 0))).set (((A.getD ((k:Int)+1).toNat v_).getD j 0).toNat) (dI (g4.getD (((A.getD ((k:Int)+1).toNat v_).getD j 0).toNat) v_) ((ah ((c.u.getD b v_).v.getD k v_)).getD i 0))).length a_ by rw[OS.len' co]) f_)),V,(rl_yes vF M b5 b0 ks k8),M⟩;omega
     have dv:=e6;have b0: ¬eok c b k ((ah ((c.u.getD b v_).v.getD k v_)).getD i 0) (((A).getD (((k:Nat):Int)+1).toNat v_).getD j 0):=fun h=>by(have h1:=h.1;have h2:=h.2;simp_all)
     refine wU 1 [] 62 63 [10] [(10,(iI ((j:Int)+1)))] (vi (n:=(j:Int)+1)) V fun _=>?_
     refine g6 _ _ _ ?_ ⟨g4,j+1,U,a_,aw,_,(bl),E,N,f_,V,(rl_no M b5 b0),M⟩;omega
    refine wU 1 [] 54 55 [9] [(9,(iI ((i:Int)+1)))] (vi (n:=(i:Int)+1)) V fun _=>?_
    refine hK _ _ _ ?_ ⟨g4,i+1,U,a_,aw,_,(fT (b3) bl),E,N,f_,V,(b5.iff (e2s_iff pt (show i<(ah ((c.u.getD b v_).v.getD k v_)).length by omega) M)),M⟩;omega
   refine wU 1 [] 37 38 [6] [(6,(iI ((k:Int)+1)))] (vi (n:=(k:Int)+1)) V fun _=>?_
   refine hJ _ _ _ ?_ ⟨g3,k+1,a1,a3,a5,_,(fT (fT (b2) cc) b3),(HS.sub f4 (a01 _ _)),dk,f_,V,(hp.iff (e1s_iff (show(ah ((c.u.getD b v_).v.getD k v_)).length<=i by omega))),M⟩;omega
  refine wU 1 [] 23 24 [4] [(4,(iI ((b:Int)+1)))] (vi (n:=(b:Int)+1)) V fun _=>?_
  refine hI _ _ _ ?_ ⟨g2,b+1,ay,a2,a4,_,(fT (fT (b8) b9) b2),aq,a8,f_,V,(hn.iff (e0_iff (show(c.u.getD b v_).v.length=k by omega))),M⟩;omega
 refine wT 1 [] 2 2 [117] [(2,(S_ ar g1 av))] V fun _=>?_
 obtain⟨nm,hD,hH,hE,lr⟩:=OS.frz a7 b4 (i:=1) V;refine ak ⟨.inr V,_,V,ar,av,g1,_,(fT (fT (e0) b8) hD),(HS.forget hH),V,hE,(fun _=>rl_fin M hb hl),(fun h=>absurd (hv.symm.trans h) e_)⟩
theorem ruses_c{bk bt}(c:VFnT)(hs:Hb H F H [] R)(kr:in64 c.m)(kx:in64 c.r)(A:Sr F bk c.u bt)(hT:TB 37 tabC F)(a6: ∀j,(c.u.getD j v_).v.length<=1073741822):kKt ex 56 [(aG [c.m,c.r,(S_ bk c.u bt)])] H fun v H'=> ∃ao,∃(ko:Nat) (o:List Int),∃F',F.le F'/\Hb H F' H' [] R/\v=sL ao o.length ko/\Sr F' ao o ko/\(cb c=true->CntF c (usedC c) o)/\(cb c=false->o=[]):=by
 refine aB Tryz.func56 V V (am 1 V (ab (aT (aN hs V V) V V ?_)));rintro _ H2 _ ⟨b1,rfl,e0,_⟩;refine za N_ (ae 3 V (ab (aS 1 0 10 10 [] [(10,(aG [c.m,c.r,(S_ bk c.u bt)]))] (Hr_ 0 0 Hn_) e0 V V fun _=>zc (m3.eN ex c (HS.call e0) M M A hT (fun j=>a0e (a6 j) M)) ?_)));rintro _ H4 ⟨r4,F4,c8,b5,rfl,rfl⟩;replace b5:=HS.back e0 V b5;replace hT:=hT.mono c8;replace A:=A.mono c8;refine bK 1 2 12 12 [] [(12,(!(cb c)))] Hn_ K_ V fun _=>ae 1 V (zI 1 2 (fun c6=>?_) fun c6=>?_)
 ·have hv:=c6;refine wT 1 [] 2 2 [] [(2,N_)] V fun _=>ak ⟨.inr V,_,V,none,0,([]:List Int),_,(c8),(HS.forget b5),V,(SR.nil:SR F4 N_ ([]:List Int)),(fun h=>absurd (h.symm.trans hv) e_),(fun _=>rfl)⟩
 have hv:=c6;have vF:=e9 hv;have o5:=vF.nb;have o6:=vF.r;have g1: ∀j,(bH c j).v.length<=1073741824:=fun j=>a0e (a6 j) M
 refine ab (aS 2 0 13 14 [] [(14,c.r)] (Hr_ 1 0 Hn_) b5 V V fun _=>aT (cS (0:Int) b5 V V V V V V V V V ⟨V,by decide⟩ M M) V V ?_);rintro _ lv p9 ⟨a9,k9,rfl,hH,g8,_⟩;let dk:Fp:=(fP b1 [c.m,c.r,(S_ bk c.u bt)])
 refine za (sL a9 (List.replicate c.r.toNat (0:Int)).length k9) (ae 3 V (wT 2 [] 1 0 [4] [(4,(iI 0))] V fun _=>aj (fun(mm:Nat) f H'=> ∃(o1:List Int) (b:Nat),∃Z,∃(ag:Nat),∃a5 F',F4.le F'/\Hb H F' H' [dk,a5] R/\OZ F' Z o1 ag a5/\aA f [(1,(pT b1 0)),(3,(S_ Z o1 ag)),(4,(b:Int))]/\mm=c.u.length-b/\(CntF c (UsP c b 0 []) o1)/\(b<=c.u.length)) _ ⟨List.replicate c.r.toNat (0:Int),0,a9,k9,p9,_,fR,g8,hH,f_,V,(kA),M⟩ ?_));rintro k3 mk lz ⟨o1,b,Z,ag,a5,hr,bz,co,b6,d2,rfl,c1,hb⟩ hg;refine au _ d2 (fun _=>?_);clear d2;replace hT:=hT.mono bz;replace A:=A.mono bz;refine am 2 V (aU 1 16 20 [] [(20,(decide ((b:Int)<(c.u.length:Int))))] (Hr_ 2 0 Hn_) co V V fun _=>zd 5 5 (fun hD=>?_) fun hD=>?_)
 ·have a0:b<c.u.length:=M
  have oZ:=a6 b;have o0:(d7 (c.u.getD b v_)).length<=1:=by unfold d7;split<;>simp
  refine wT 2 [] 1 0 [5] [(5,(iI 0))] V fun _=>aj (fun(mm:Nat) f H'=> ∃(o2:List Int) (k:Nat),∃aq,∃(aw:Nat),∃ax F',hr.le F'/\Hb H F' H' [dk,ax] R/\OZ F' aq o2 aw ax/\aA f [(1,(pT b1 0)),(3,(S_ aq o2 aw)),(4,(b:Int)),(5,(k:Int))]/\mm=(c.u.getD b v_).v.length-k/\(CntF c (UsP c b k []) o2)/\(k<=(c.u.getD b v_).v.length)) _ ⟨o1,0,Z,ag,a5,_,fR,co,b6,f_,V,M,M⟩ ?_
  rintro k4 mx l0 ⟨o2,k,aq,aw,ax,k8,b2,E,aa,em,rfl,c2,hk⟩ hh;refine au _ em (fun _=>?_);clear em;replace hT:=hT.mono b2;replace A:=A.mono b2;refine am 2 V ?_;obtain⟨kd,e2⟩:=Sv.view (SR.sv A E);obtain⟨hR,hS,hV,hW,jb⟩:=BlkT.fx (e2 b);refine aU 1 23 31 [] [(31,(decide ((k:Int)<((c.u.getD b v_).v.length:Int))))] (Hr_ 2 0 (Ha_ (Sv.ix (j:=(b:Int)) (SR.sv A E)) (Hl_ 6 (ql 80 0 (BlkT.vw (e2 b)) V V) Hn_))) E V V fun _=>zd 4 5 (fun hE=>?_) fun hE=>?_
  ·have hy:k<(c.u.getD b v_).v.length:=M
   have ja:(∀x∈aE ((c.u.getD b v_).v.getD k v_),0<=x/\x<c.r)/\(∀x∈ah ((c.u.getD b v_).v.getD k v_),0<=x/\x<c.r)/\((c.u.getD b v_).v.getD k v_).args.length<=6:=bD (vF.v b a0 k hy);have o7:=eD (v:=((c.u.getD b v_).v.getD k v_));have o8:=dM (v:=((c.u.getD b v_).v.getD k v_));have oY:(aE ((c.u.getD b v_).v.getD k v_)++ah ((c.u.getD b v_).v.getD k v_)).length=(aE ((c.u.getD b v_).v.getD k v_)).length+(ah ((c.u.getD b v_).v.getD k v_)).length:=a02;have ox: ∀x∈(aE ((c.u.getD b v_).v.getD k v_)++ah ((c.u.getD b v_).v.getD k v_)),0<=x/\x<c.r:=fun x hx=>(a09.1 hx).elim (ja.1 x) (ja.2.1 x)
   refine aC V ?_;obtain⟨kg,e3⟩:=Sv.view (SR.sv A E);obtain⟨hX,hY,h1,h2,c9⟩:=BlkT.fx (e3 b);obtain⟨ds,e4⟩:=Sv.view (SR.sv c9 E);obtain⟨h3,h4,h5,h6,h7,f7⟩:=VInT.fx (e4 k);refine cN 9 34 42 [] [(42,(aG [((c.u.getD b v_).v.getD k v_).i.op,((c.u.getD b v_).v.getD k v_).i.a,((c.u.getD b v_).v.getD k v_).i.b,((c.u.getD b v_).v.getD k v_).i.c,((c.u.getD b v_).v.getD k v_).i.n,(sL (cA (ds k) 5) ((c.u.getD b v_).v.getD k v_).args.length (cK (ds k) 5))]))] (Hr_ 1 0 (Ha_ (Sv.ix (j:=(b:Int)) (SR.sv A E)) (Hl_ 5 (ql 80 0 (hc0 (BlkT.vw (e3 b))) V V) (Ha_ (Sv.ix (j:=(k:Int)) (SR.sv c9 E)) (Hl_ 8 (qn 88 0 6 (hc0 (VInT.vw (e4 k))) V V V V) Hn_))))) E V V fun _=>aQ (W:=[]) (aP V V V) V V V (ma.kf ex ((c.u.getD b v_).v.getD k v_) (HS.call E.log0) M M M M M f7 hT M) (kb V) ?_
   rintro _ hz ⟨ka,kz,n5,go,b3,a2,rfl,f5,rfl⟩;refine⟨Wr.did a2.log,fun hm f3=>?_⟩;replace a2:=HS.back E.log0 V a2;replace a2:=HS.lg a2 E f3;generalize ({hz with log:=hm}:Heap)=jq at a2⊢;replace hT:=hT.mono b3;replace A:=A.mono b3;have e1:=HS.snoc a2;refine zad 2 (OS.nil:OS go N_ ([]:List Int) []) e1 (SR.sv f5 e1) V V V M (kb V) fun hB hI hK jw bl an=>?_
   have bl:OS go (sL hB (aE ((c.u.getD b v_).v.getD k v_)).length hI) (aE ((c.u.getD b v_).v.getD k v_)) hK:=bl;refine zp 2 (bj (v:=(S_ bk c.u bt)) (id:= .l b1) (fp (i:=2) V V (HS.hc an.log0 (i:=0) V) V V) V V (gf V) (⟨.inl V,.inr a0g,.inr a0g,q_⟩) ?_);obtain⟨ki,e5⟩:=Sv.view (SR.sv A an);obtain⟨h8,h9,ib,ih,dd⟩:=BlkT.fx (e5 b);obtain⟨dt,e6⟩:=Sv.view (SR.sv dd an);obtain⟨ii,ik,il,it,iv,f8⟩:=VInT.fx (e6 k);refine cN 7 47 53 [] [(53,(aG [((c.u.getD b v_).v.getD k v_).i.op,((c.u.getD b v_).v.getD k v_).i.a,((c.u.getD b v_).v.getD k v_).i.b,((c.u.getD b v_).v.getD k v_).i.c,((c.u.getD b v_).v.getD k v_).i.n,(sL (cA (dt k) 5) ((c.u.getD b v_).v.getD k v_).args.length (cK (dt k) 5))]))] (Ha_ (Sv.ix (j:=(b:Int)) (SR.sv A an)) (Hl_ 16 (ql 80 0 (hc0 (BlkT.vw (e5 b))) V V) (Ha_ (Sv.ix (j:=(k:Int)) (SR.sv dd an)) (Hl_ 19 (qn 88 0 6 (hc0 (VInT.vw (e6 k))) V V V V) Hn_)))) an V V fun _=>aQ (W:=[]) (aP V V V) V V V (ma.iF ex ((c.u.getD b v_).v.getD k v_) (HS.call an.log0) M M M M M f8 hT) (kb V) ?_
   rintro _ hA ⟨kc,k0,n6,hL,ht,b8,ap,rfl,f6,rfl⟩;refine⟨Wr.did ap.log,fun hn f4=>?_⟩;replace ap:=HS.back an.log0 V ap;replace ap:=HS.lg ap an f4;generalize ({hA with log:=hn}:Heap)=j1 at ap⊢;replace bl:=bl.mono b8;replace aa:=(aa.mono b3).mono b8;refine zad 2 bl ap (OS.sv f6 ap (i:=3) V) V V V M (kb V) fun gt g4 hM j2 b4 g9=>fa (sL gt ((aE ((c.u.getD b v_).v.getD k v_))++(ah ((c.u.getD b v_).v.getD k v_))).length g4) V V V (aW 2 V (wT 2 [] 1 0 [7] [(7,(iI 0))] V fun _=>aj (fun(mm:Nat) f H'=> ∃(o3:List Int) (p:Nat),∃N,∃(U:Nat),∃a7 F',ht.le F'/\Hb H F' H' [dk,a7,hM,hL] R/\OZ F' N o3 U a7/\aA f [(1,(pT b1 0)),(3,(S_ N o3 U)),(4,(b:Int)),(5,(k:Int)),(6,(sL gt ((aE ((c.u.getD b v_).v.getD k v_))++(ah ((c.u.getD b v_).v.getD k v_))).length g4)),(7,(p:Int))]/\mm=(aE ((c.u.getD b v_).v.getD k v_)++ah ((c.u.getD b v_).v.getD k v_)).length-p/\(CntF c (UsP c b k ((aE ((c.u.getD b v_).v.getD k v_)++ah ((c.u.getD b v_).v.getD k v_)).take p)) o3)/\(p<=(aE ((c.u.getD b v_).v.getD k v_)++ah ((c.u.getD b v_).v.getD k v_)).length)) _ ⟨o2,0,aq,aw,ax,_,fR,g9,aa,f_,V,(c2),M⟩ ?_))
   rintro k5 mI l1 ⟨o3,p,N,U,a7,lf,b9,a3,ar,et,rfl,c3,hp⟩ hj;refine au _ et (fun _=>?_);clear et;replace b4:=b4.mono b9;refine am 2 V (wT 1 [] 56 59 [] [(59,(decide ((p:Int)<(((aE ((c.u.getD b v_).v.getD k v_))++(ah ((c.u.getD b v_).v.getD k v_))).length:Int))))] V fun _=>zd 3 5 (fun hF=>?_) fun hF=>?_)
   ·have hC:p<(aE ((c.u.getD b v_).v.getD k v_)++ah ((c.u.getD b v_).v.getD k v_)).length:=M
    have g2:=dm ox hC;have n3:=cnt_rng c3 g2 (us_len vF g1 a0 p_);refine ab ?_;obtain⟨kk,fd⟩:=Sv.view (OS.sv b4 a3 (i:=2) V);have nm:=fI (fd p);obtain⟨kl,fi⟩:=Sv.view (OS.sv ar a3 (i:=1) V);have nx:=fI (fi ((((aE ((c.u.getD b v_).v.getD k v_))++(ah ((c.u.getD b v_).v.getD k v_))).getD p 0).toNat));refine bK 9 0 62 70 [] [(69,(iI ((o3.getD ((((aE ((c.u.getD b v_).v.getD k v_))++(ah ((c.u.getD b v_).v.getD k v_))).getD p 0).toNat) 0)+1))),(70,(.pointer (some ⟨sB (S_ N o3 U),sO (S_ N o3 U)+((((aE ((c.u.getD b v_).v.getD k v_))++(ah ((c.u.getD b v_).v.getD k v_))).getD p 0).toNat) *Rp.sz Int,none⟩)))] (Ha_ (Sv.ix (j:=(p:Int)) (OS.sv b4 a3 (i:=2) V)) (Hl_ 4 (ql 3 0 (vI (fd p)) V V) (Ha_ (Sv.ix (j:=(((aE ((c.u.getD b v_).v.getD k v_))++(ah ((c.u.getD b v_).v.getD k v_))).getD p 0)) (OS.sv ar a3 (i:=1) V)) (Hl_ 6 (ql 3 0 (vI (fi ((((aE ((c.u.getD b v_).v.getD k v_))++(ah ((c.u.getD b v_).v.getD k v_))).getD p 0).toNat))) V V) (Ha_ (vi (n:=(o3.getD ((((aE ((c.u.getD b v_).v.getD k v_))++(ah ((c.u.getD b v_).v.getD k v_))).getD p 0).toNat) 0)+1)) (Ha_ (Sv.ix (j:=(((aE ((c.u.getD b v_).v.getD k v_))++(ah ((c.u.getD b v_).v.getD k v_))).getD p 0)) (OS.sv ar a3 (i:=1) V)) Hn_)))))) K_ V fun _=>cL (bW (α:=Int) (j:=(((aE ((c.u.getD b v_).v.getD k v_))++(ah ((c.u.getD b v_).v.getD k v_))).getD p 0).toNat) (off:=0) (q:=1) ((o3.getD ((((aE ((c.u.getD b v_).v.getD k v_))++(ah ((c.u.getD b v_).v.getD k v_))).getD p 0).toNat) 0)+1) ar a3 V V V V V V V V (aO (x:=(0:Int)) M) V (by rintro cs ⟨rfl,_⟩;exact⟨a08 V,V,M⟩)) V ?_
    rintro _ l2 hO ⟨ch,ha,_⟩;have i4:=OS.len' ch;refine ae 2 V (wU 1 [] 60 61 [7] [(7,(iI ((p:Int)+1)))] (vi (n:=(p:Int)+1)) V fun _=>?_);refine hj _ _ _ ?_ ⟨o3.set ((((aE ((c.u.getD b v_).v.getD k v_))++(ah ((c.u.getD b v_).v.getD k v_))).getD p 0).toNat) ((o3.getD ((((aE ((c.u.getD b v_).v.getD k v_))++(ah ((c.u.getD b v_).v.getD k v_))).getD p 0).toNat) 0)+1),p+1,N,U,hO,_,(b9),ha,(OS.norm ch),(agC V (agC (show Value.slice N o3.length U=Value.slice N (o3.set ((((aE ((c.u.getD b v_).v.getD k v_))++(ah ((c.u.getD b v_).v.getD k v_))).getD p 0).toNat) ((o3.getD ((((aE ((c.u.getD b v_).v.getD k v_))++(ah ((c.u.getD b v_).v.getD k v_))).getD p 0).toNat) 0)+1)).length U by rw[OS.len' ch]) f_)),V,(by rw[bx (d:=0) hC];exact cnt_step c3 g2),M⟩;omega
   refine wU 1 [] 32 33 [5] [(5,(iI ((k:Int)+1)))] (vi (n:=(k:Int)+1)) V fun _=>?_
   refine hh _ _ _ ?_ ⟨o3,k+1,N,U,a7,_,(fT (fT (fT (b2) b3) b8) b9),(HS.sub a3 (a01 _ _)),ar,f_,V,(by rw[a0h (show(aE ((c.u.getD b v_).v.getD k v_)++ah ((c.u.getD b v_).v.getD k v_)).length<=p by omega)]at c3;exact us_instr hy▸c3),M⟩;omega
  refine ab ?_;obtain⟨dv,fj⟩:=Sv.view (SR.sv A E);obtain⟨iz,i1,i2,i3,f9⟩:=BlkT.fx (fj b);refine aS 5 0 71 75 [] [(75,(aG [(sL (cA (dv b) 0) (c.u.getD b v_).v.length (cK (dv b) 0)),(c.u.getD b v_).f,(c.u.getD b v_).r,(c.u.getD b v_).t,(c.u.getD b v_).e]))] (Hr_ 1 0 (Ha_ (Sv.ix (j:=(b:Int)) (SR.sv A E)) (Hl_ 4 (qn 82 0 5 (BlkT.vw (fj b)) V V V V) Hn_))) E V V fun _=>zc (ma.rend_c ex (c.u.getD b v_) (HS.call E) f9 M M M M hT) ?_
  rintro _ l3 ⟨dn,f2,n7,hP,hw,d1,c5,rfl,bb,rfl⟩;replace c5:=HS.back E V c5;replace aa:=aa.mono d1;refine za (sL dn (d7 (c.u.getD b v_)).length f2) (ae 2 V (wT 2 [] 1 0 [9] [(9,(iI 0))] V fun _=>aj (fun(mm:Nat) f H'=> ∃(o4:List Int) (q:Nat),∃T,∃(a_:Nat),∃a8 F',hw.le F'/\Hb H F' H' [dk,a8,hP] R/\OZ F' T o4 a_ a8/\aA f [(1,(pT b1 0)),(3,(S_ T o4 a_)),(4,(b:Int)),(8,(sL dn (d7 (c.u.getD b v_)).length f2)),(9,(q:Int))]/\mm=(d7 (c.u.getD b v_)).length-q/\(CntF c (UsP c b (c.u.getD b v_).v.length ((d7 (c.u.getD b v_)).take q)) o4)/\(q<=(d7 (c.u.getD b v_)).length)) _ ⟨o2,0,aq,aw,ax,_,fR,c5,aa,f_,V,(by rw[←(show k=(c.u.getD b v_).v.length by omega)];exact c2),M⟩ ?_));rintro k6 m0 l4 ⟨o4,q,T,a_,a8,ll,cc,a4,av,ez,rfl,c4,hq⟩ hl;refine au _ ez (fun _=>?_);clear ez;replace bb:=bb.mono cc;refine am 2 V (wT 1 [] 77 80 [] [(80,(decide ((q:Int)<((d7 (c.u.getD b v_)).length:Int))))] V fun _=>zd 3 5 (fun hG=>?_) fun hG=>?_)
  ·have hJ:q<(d7 (c.u.getD b v_)).length:=M
   have g3:0<=(d7 (c.u.getD b v_)).getD q 0/\(d7 (c.u.getD b v_)).getD q 0<c.r:=dm (end_rng vF a0) hJ;have n4:=cnt_rng c4 g3 (us_len vF g1 a0 p_);refine ab ?_;obtain⟨kn,f0⟩:=Sv.view (OS.sv bb a4 (i:=2) V);have n1:=fI (f0 q);obtain⟨kp,f1⟩:=Sv.view (OS.sv av a4 (i:=1) V);have n2:=fI (f1 ((d7 (c.u.getD b v_)).getD q 0).toNat);refine bK 9 0 83 91 [] [(90,(iI ((o4.getD ((d7 (c.u.getD b v_)).getD q 0).toNat 0)+1))),(91,(.pointer (some ⟨sB (S_ T o4 a_),sO (S_ T o4 a_)+((d7 (c.u.getD b v_)).getD q 0).toNat *Rp.sz Int,none⟩)))] (Ha_ (Sv.ix (j:=(q:Int)) (OS.sv bb a4 (i:=2) V)) (Hl_ 4 (ql 3 0 (vI (f0 q)) V V) (Ha_ (Sv.ix (j:=((d7 (c.u.getD b v_)).getD q 0)) (OS.sv av a4 (i:=1) V)) (Hl_ 6 (ql 3 0 (vI (f1 ((d7 (c.u.getD b v_)).getD q 0).toNat)) V V) (Ha_ (vi (n:=(o4.getD ((d7 (c.u.getD b v_)).getD q 0).toNat 0)+1)) (Ha_ (Sv.ix (j:=((d7 (c.u.getD b v_)).getD q 0)) (OS.sv av a4 (i:=1) V)) Hn_)))))) K_ V fun _=>cL (bW (α:=Int) (j:=((d7 (c.u.getD b v_)).getD q 0).toNat) (off:=0) (q:=1) ((o4.getD ((d7 (c.u.getD b v_)).getD q 0).toNat 0)+1) av a4 V V V V V V V V (aO (x:=(0:Int)) M) V (by rintro cs ⟨rfl,_⟩;exact⟨a08 V,V,M⟩)) V ?_
   rintro _ l9 hQ ⟨ci,he,_⟩;have i5:=OS.len' ci;refine ae 2 V (wU 1 [] 81 82 [9] [(9,(iI ((q:Int)+1)))] (vi (n:=(q:Int)+1)) V fun _=>?_);refine hl _ _ _ ?_ ⟨o4.set ((d7 (c.u.getD b v_)).getD q 0).toNat ((o4.getD ((d7 (c.u.getD b v_)).getD q 0).toNat 0)+1),q+1,T,a_,hQ,_,(cc),he,(OS.norm ci),(agC V (agC (show Value.slice T o4.length a_=Value.slice T (o4.set ((d7 (c.u.getD b v_)).getD q 0).toNat ((o4.getD ((d7 (c.u.getD b v_)).getD q 0).toNat 0)+1)).length a_ by rw[OS.len' ci]) f_)),V,(by rw[bx (d:=0) hJ];exact cnt_step c4 g3),M⟩;omega
  refine wU 1 [] 21 22 [4] [(4,(iI ((b:Int)+1)))] (vi (n:=(b:Int)+1)) V fun _=>?_
  refine hg _ _ _ ?_ ⟨o4,b+1,T,a_,a8,_,(fT (fT (fT (bz) b2) d1) cc),(HS.sub a4 (a01 _ _)),av,f_,V,(by rw[a0h (show(d7 (c.u.getD b v_)).length<=q by omega)]at c4;exact us_block a0▸c4),M⟩;omega
 refine wT 1 [] 2 2 [92] [(2,(S_ Z o1 ag))] V fun _=>?_
 obtain⟨lr,g6,hf,g7,ky⟩:=OS.frz b6 co (i:=1) V;refine ak ⟨.inr V,_,V,Z,ag,o1,_,(fT (fT (c8) bz) g6),(HS.forget hf),V,g7,(fun _=>us_all (c:=c) (k:=b) M▸c1),(fun h=>absurd (hv.symm.trans h) e_)⟩
end ni
open ni
namespace nv
variable (ex:FuncId) {F:Fz} {H:Heap} {R:List Fp}
structure LocT where
 inS:Bool
 x:Int
 deriving Inhabited,DecidableEq
instance :Rp LocT where
 sz:=2
 rep F cs x:=cs=[.bool x.inS,iI x.x]/\in64 x.x
 len:=by rintro F cs x ⟨rfl,_⟩;rfl
 one:=by rintro F cs x ⟨rfl,_⟩;rfl
 mono:=by intro F F' cs x _ h;exact h
theorem LocT.vw{F}{get:Nat->Option AObj}{v:Value}{cf:Nat->List Value}{j:Nat}{l:List LocT}(h:VW F get v l cf j)(N:j<l.length:=by first|(dsimp only;omega)|omega):HC get (sB v) (sO v+j *Rp.sz LocT) [.bool (l.getD j v_).inS,iI (l.getD j v_).x]:=by obtain⟨⟨E,_⟩,A⟩:=h.1 v_ N;rw[show cf j=_ from E]at A;exact A
theorem LocT.fx{F}{get:Nat->Option AObj}{v:Value}{cf:Nat->List Value}{j:Nat}{l:List LocT}(h:VW F get v l cf j):in64 (l.getD j v_).x:=by
 rcases a0k j l.length with hj|hj
 ·obtain⟨⟨A,h0⟩,_⟩:=h.1 v_ hj;exact h0
 rw[bZ hj];decide
structure SpiT where
 r:Int
 why:Int
 blk:Int
 x:Int
 oth:(List Int)
 deriving Inhabited,DecidableEq
instance :Rp SpiT where
 sz:=5
 rep F cs x:= ∃a4 k4,cs=[iI x.r,iI x.why,iI x.blk,iI x.x,sL a4 x.oth.length k4]/\in64 x.r/\in64 x.why/\in64 x.blk/\in64 x.x/\SR F (sL a4 x.oth.length k4) x.oth
 len:=by rintro F cs x ⟨a4,k4,rfl,_⟩;rfl
 one:=by rintro F cs x ⟨a4,k4,rfl,_⟩;rfl
 mono:=by rintro F F' cs x hF ⟨a4,k4,rfl,h0,h1,h2,h3,h4⟩;exact⟨a4,k4,V,h0,h1,h2,h3,h4.mono hF⟩
structure AllT where
 l:(List LocT)
 p:(List SpiT)
 k:Int
 deriving Inhabited,DecidableEq
instance :Rp AllT where
 sz:=3
 rep F cs x:= ∃a0 k0 a1 k1,cs=[sL a0 x.l.length k0,sL a1 x.p.length k1,iI x.k]/\in64 x.k/\SR F (sL a0 x.l.length k0) x.l/\SR F (sL a1 x.p.length k1) x.p
 len:=by rintro F cs x ⟨a0,k0,a1,k1,rfl,_⟩;rfl
 one:=by rintro F cs x ⟨a0,k0,a1,k1,rfl,_⟩;rfl
 mono:=by rintro F F' cs x hF ⟨a0,k0,a1,k1,rfl,h0,h1,h2⟩;exact⟨a0,k0,a1,k1,V,h0,h1.mono hF,h2.mono hF⟩
theorem AllT.vw{F}{get:Nat->Option AObj}{v:Value}{cf:Nat->List Value}{j:Nat}{l:List AllT}(h:VW F get v l cf j)(U:j<l.length:=by first|(dsimp only;omega)|omega):HC get (sB v) (sO v+j *Rp.sz AllT) [sL (cA (cf j) 0) (l.getD j v_).l.length (cK (cf j) 0),sL (cA (cf j) 1) (l.getD j v_).p.length (cK (cf j) 1),iI (l.getD j v_).k]:=by obtain⟨⟨Z,T,N,k1,E,_⟩,A⟩:=h.1 v_ U;rw[show cf j=_ from E]at A⊢;exact A
theorem AllT.fx{F}{get:Nat->Option AObj}{v:Value}{cf:Nat->List Value}{j}{l:List AllT}(h:VW F get v l cf j):in64 (l.getD j v_).k/\SR F (sL (cA (cf j) 0) (l.getD j v_).l.length (cK (cf j) 0)) (l.getD j v_).l/\SR F (sL (cA (cf j) 1) (l.getD j v_).p.length (cK (cf j) 1)) (l.getD j v_).p:=by
 rcases a0k j l.length with hj|hj
 ·obtain⟨⟨Z,U,T,k1,A,h0,E,N⟩,_⟩:=h.1 v_ hj;rw[show cf j=_ from A];exact⟨h0,E,N⟩
 rw[bZ hj,h.2 hj];exact⟨by decide,SR.nil,SR.nil⟩
theorem g0{c:VFnT}{l:List Int}{S:Nat->Prop}(h:Lst l S)(hs: ∀r,S r->(r:Int)<c.r): ∀x∈l,0<=x/\x<c.r:=fun x N=>by obtain⟨E,A⟩:=(h.mem x).1 N;have:=hs _ A;omega
theorem lst_some{l S}(h:Lst l S)(A:0<l.length): ∃r,S r:=by
 cases l with
 |nil=>exact absurd A (Nat.lt_irrefl _)
 |cons x l=>exact⟨_,((h.mem x).1 (a0q ..)).2⟩
theorem inte_lt{c}(v:VF c){a x}(h:lW c a x):(a:Int)<c.r/\(x:Int)<c.r:=by obtain⟨b,i,A,E,N,T,_⟩:=h;exact⟨((bD (v.v b A i E)).2.1 _ N).2,iH v A T⟩
theorem jC{c}(v:VF c){r y}(h:Sy (lW c) r y):(y:Int)<c.r:=h.elim (fun h=>(inte_lt v h).2) fun h=>(inte_lt v h).1
theorem in_some{c:VFnT}{x:List (List Int)}(h:Lst (x.getD 0 v_) (LIn c 0))(A:0<c.u.length)(E:0<(x.getD 0 v_).length): ∃r,ptS c 0 0 r:=by obtain⟨r,N⟩:=lst_some h E;exact⟨r,(pt_in A _).2 N⟩
theorem in_none{c:VFnT}{x:List (List Int)}(h:Lst (x.getD 0 v_) (LIn c 0))(E:0<c.u.length)(T: ¬0<(x.getD 0 v_).length): ∀r,¬ptS c 0 0 r:=fun r N=>by have:=(pt_in E _).1 N;have A:=List.length_pos_of_mem ((h.mem (r:Int)).2 ⟨M,by rw[show((r:Nat):Int).toNat=r by omega];exact this⟩);omega
def okL(c:VFnT)(a:AllT)(x:LocT):Prop:=(x.inS=true->c.m<=x.x/\x.x<a.k)/\(x.inS=false->0<=x.x/\x.x<5)
def dV(a:AllT)(r:Nat):LocT:=a.l.getD r v_
structure SndP(c:VFnT)(a:AllT):Prop where
 val:cb c=true
 len:(a.l.length:Int)=c.r
 lo:c.m<=a.k
 hi:a.k<=3000
 z: ∀r,¬ptS c 0 0 r
 loc: ∀q,q<a.l.length->okL c a (dV a q)
 dis: ∀q y,q<a.l.length->Sy (lW c) q y->dV a q≠dV a y
 acr: ∀r,acS c r->(dV a r).inS=true
def bP(p:Prop):Bool:= @decide p (Classical.propDecidable p)
theorem bP_y{p}(h:p):true=bP p:=(@decide_eq_true p (Classical.propDecidable p) h).symm
theorem bP_n{p}(h: ¬p):false=bP p:=(@decide_eq_false p (Classical.propDecidable p) h).symm
theorem bP_iff{p}:bP p=true↔p:= @decide_eq_true_iff p (Classical.propDecidable p)
theorem cX{P:Nat->Prop}{k:Nat}(h: ∀q,q<k->P q)(E:P k): ∀q,q<k+1->P q:=fun q N=>by
 rcases Nat.lt_or_eq_of_le (Nat.le_of_lt_succ N) with A|rfl
 ·exact h q A
 exact E
theorem snd_row{c a A r n}(E:Lst A (Sy (lW c) r))(Z:A.length<=n)(h: ∀p,p<n->dV a r≠dV a (A.getD p 0).toNat): ∀y,Sy (lW c) r y->dV a r≠dV a y:=fun y U=>by have N:=(E.mem (y:Int)).2 ⟨M,by rw[show((y:Nat):Int).toNat=y by omega];exact U⟩;obtain⟨p,T,e⟩:=List.getElem_of_mem N;have:=h p M;rw[a03,a06 T,a0O,e]at this;rwa [show((y:Nat):Int).toNat=y by omega]at this
theorem snd_acr{c a l n}(A:Lst l (acS c))(U:l.length<=n)(h: ∀p,p<n->(dV a (l.getD p 0).toNat).inS=true): ∀r,acS c r->(dV a r).inS=true:=fun y T=>by have E:=(A.mem (y:Int)).2 ⟨M,by rw[show((y:Nat):Int).toNat=y by omega];exact T⟩;obtain⟨p,N,e⟩:=List.getElem_of_mem E;have:=h p M;rw[a03,a06 N,a0O,e]at this;rwa [show((y:Nat):Int).toNat=y by omega]at this
theorem snd_no0{c a}(h:((((!(cb c))||((a.l.length:Int) !=c.r))||(decide (a.k<c.m)))||(decide ((3000:Int)<a.k)))=true): ¬SndP c a:=fun s=>by have A:=s.val;have E:=s.len;have N:=s.lo;have T:=s.hi;rw[A,E,decide_eq_false M,decide_eq_false M]at h;simp at h
theorem snd_yes0{c:VFnT}{a:AllT}(h:((((!(cb c))||((a.l.length:Int) !=c.r))||(decide (a.k<c.m)))||(decide ((3000:Int)<a.k)))=false):cb c=true/\(a.l.length:Int)=c.r/\c.m<=a.k/\a.k<=3000:=by simp only[a1i,decide_eq_false_iff_not,a26,bne_eq_false_iff_eq]at h;exact⟨h.1.1.1,h.1.1.2,M,M⟩
theorem ok_no{c a x}{lo hi:Int}(E:(x.inS=true/\lo=c.m/\hi=a.k)\/(x.inS=false/\lo=0/\hi=5))(A:((decide (x.x<lo))||(decide (hi<=x.x)))=true): ¬okL c a x:=fun h=>by
 rw[a0C,decide_eq_true_eq,decide_eq_true_eq]at A;rcases E with⟨e,rfl,rfl⟩|⟨e,rfl,rfl⟩
 ·have:=h.1 e;omega
 have:=h.2 e;omega
theorem ok_yes{c a x}{lo hi:Int}(E:(x.inS=true/\lo=c.m/\hi=a.k)\/(x.inS=false/\lo=0/\hi=5))(A:((decide (x.x<lo))||(decide (hi<=x.x)))=false):okL c a x:=by
 rw[a1i,decide_eq_false_iff_not,decide_eq_false_iff_not]at A;rcases E with⟨e,rfl,rfl⟩|⟨e,rfl,rfl⟩
 ·exact⟨fun _=>by omega,fun h=>by rw[e]at h;cases h⟩
 exact⟨(fun h=>by rw[e]at h;cases h),fun _=>by omega⟩
theorem loc_eq{x y:LocT}(h:(x.inS==y.inS&&(x.x==y.x&&true))=true):x=y:=by obtain⟨a,i⟩:=x;obtain⟨b,j⟩:=y;simp at h;obtain⟨rfl,rfl⟩:=h;rfl
theorem loc_nq{x y:LocT}(h:(x.inS==y.inS&&(x.x==y.x&&true))=false):x≠y:=fun e=>by subst e;simp at h
theorem rok_no{c a l r}(T:Lst l (acS c))(U:r<a.l.length)(h:(((dV a r).inS&&((decide ((dV a r).x<c.m))||(decide (a.k<=(dV a r).x))))||((!(dV a r).inS)&&(((decide ((dV a r).x<0))||(decide ((5:Int)<=(dV a r).x)))||im l (r:Int))))=true): ¬SndP c a:=fun s=>by
 have A:=s.loc r U;cases hi:(dV a r).inS with
 |true=>
  have N:=A.1 hi
  rw[hi,decide_eq_false M,decide_eq_false M]at h
  simp at h
 |false=>
  have N:=A.2 hi
  rw[hi,decide_eq_false (by omega: ¬(dV a r).x<0),decide_eq_false (by omega: ¬(5:Int)<=(dV a r).x)]at h
  simp only[a1y,a1x,a1p,a21,ij]at h
  have E:=s.acr r (((T.mem _).1 h).2)
  rw[hi]at E;cases E
theorem rok_yes{c a l r}(N:Lst l (acS c))(h:(((dV a r).inS&&((decide ((dV a r).x<c.m))||(decide (a.k<=(dV a r).x))))||((!(dV a r).inS)&&(((decide ((dV a r).x<0))||(decide ((5:Int)<=(dV a r).x)))||im l (r:Int))))=false):okL c a (dV a r)/\(acS c r->(dV a r).inS=true):=by
 cases hi:(dV a r).inS with
 |true=>
  rw[hi]at h
  simp only[a1p,a1E,a1y,a1M,a1i,decide_eq_false_iff_not]at h
  exact⟨⟨fun _=>by omega,fun A=>(by rw[hi]at A;cases A)⟩,fun _=>rfl⟩
 |false=>
  rw[hi]at h
  simp only[a1y,a1x,a1p,a21,a1i,decide_eq_false_iff_not]at h
  refine⟨⟨fun A=>(by rw[hi]at A;cases A),fun _=>by omega⟩,fun A=>?_⟩
  have E:=ij.2 ((N.mem (r:Int)).2 ⟨M,by rw[show((r:Nat):Int).toNat=r by omega];exact A⟩)
  rw[E]at h;cases h.2
theorem lst_at{S l p}(A:Lst l S)(E:p<l.length):S (l.getD p 0).toNat:=((A.mem _).1 (jJ E)).2
theorem sound_c{a7 bz}(c:VFnT){b5 b9 an aw}(a:AllT)(hs:Hb H F H [] R)(hI:in64 c.m)(hJ:in64 c.r)(N:Sr F a7 c.u bz)(E:Sr F an a.l aw)(hG:Sr F b5 a.p b9)(hH:in64 a.k)(hT:TB 37 tabC F)(a6: ∀j,(c.u.getD j v_).v.length<=1073741822):kKt ex 35 [(aG [c.m,c.r,(S_ a7 c.u bz)]),(aG [(S_ an a.l aw),(S_ b5 a.p b9),a.k])] H fun v H'=> ∃(o:Bool),∃F',F.le F'/\Hb H F' H' [] R/\v= .bool o/\o=bP (SndP c a):=by
 refine aB Tryz.func35 V V (am 1 V (ab (aT (aN hs V V) V V ?_)));rintro _ H2 _ ⟨b1,rfl,g6,_⟩;refine aT (aN g6 V V) V V ?_;rintro _ H4 _ ⟨b3,rfl,a4,_⟩;refine za (.bool false) (ae 3 V (sj 1 17 39 [] [(39,((((!(cb c))||((a.l.length:Int) !=c.r))||(decide (a.k<c.m)))||(decide ((3000:Int)<a.k))))] (Hr_ 0 0 (Hk_ 1 (jc a4 fun _ _ j q=>m3.kM ex c q M M (N.mono j) (hT.mono j) (fun j=>a0e (a6 j) M)) (Hj1_ 5 (fun _=>(jl a4 29 0 1 V V V)) (Hj1_ 8 (fun _=>(jl a4 3 1 0 V V V)) (Hj1_ 13 (fun _=>(jl a4 3 2 1 V V V)) (Hj1_ 15 (fun _=>(jl a4 3 0 0 V V V)) (Hj1_ 20 (fun _=>(jl a4 3 2 1 V V V)) Hn_))))))) a4 V V fun iv H5 F5 ag ch=>?_));replace hT:=hT.mono ag;replace E:=E.mono ag;replace N:=N.mono ag;refine zi 1 3 (fun cc=>?_) fun cc=>?_
 ·have c6:=cc;try simp only[BS]at c6
  have ad: ¬SndP c a:=snd_no0 cc;refine wT 1 [] 4 4 [] [(4,false)] V fun _=>ak ⟨.inr V,_,V,false,_,(ag),(HS.forget ch),V,(bP_n ad)⟩
 have co:=snd_yes0 cc;have hv:=co.1;have jo:=co.2.1;have ko:=co.2.2.1;have kn:=co.2.2.2;have vF:=e9 hv;have lv:=vF.nb;have i4:=vF.r;have ly:=vF.m;let e4:Value:=(aG [c.m,c.r,(S_ a7 c.u bz)])
 refine ab (aS 1 0 41 41 [] [(41,e4)] (Hr_ 0 0 Hn_) ch V V fun _=>zc (md.blocks_c ex c (HS.call ch) M M N hT (fun j=>a0e (a6 j) M)) ?_);rintro _ H9 ⟨f8,g7,x9,h8,i2,y9,F9,ax,a5,rfl,dv,hK,i1,iz⟩;replace a5:=HS.back ch V a5;replace hT:=hT.mono ax;replace E:=E.mono ax;replace N:=N.mono ax;refine bK 5 2 43 44 [5,6,40] [(5,(S_ f8 x9 g7))] Hn_ K_ V fun _=>ae 2 V ?_
 have bk:BkF c x9 _:=(by assumption:cb c=true->BkF c x9 _) hv;have lr:=bk.lx;have e6:Lst ((x9).getD 0 v_) (LIn c 0):=bk.hx 0 M;obtain⟨hh,d1⟩:=Sv.view (SR.sv dv a5);have i3:=fL (d1 0);refine wrp 1 45 49 [] [(49,(decide ((0:Int)<((x9.getD 0 v_).length:Int))))] (Ha_ (Sv.ix (j:=0) (SR.sv dv a5)) (Hl_ 2 (ql 22 0 (vL (d1 0)) V V) Hn_)) K_ V fun _=>zd 1 3 (fun f9=>?_) fun f9=>?_
 ·have ad: ¬SndP c a:=fun h=>(in_some e6 M M).elim fun r hr=>h.z r hr
  refine wT 1 [] 4 4 [] [(4,false)] V fun _=>ak ⟨.inr V,_,V,false,_,(fT (ag) ax),(HS.forget a5),V,(bP_n ad)⟩
 have hz: ∀r,¬ptS c 0 0 r:=in_none e6 M M;let b2:Fp:=(fP b1 [c.m,c.r,(S_ a7 c.u bz)])
 let b4:Fp:=(fP b3 [(S_ an a.l aw),(S_ b5 a.p b9),a.k])
 refine aU 2 50 53 [] [(51,(S_ an a.l aw)),(52,(a.l.length:Int)),(53,(iI 0))] (Hr_ 1 1 Hn_) a5 V V fun _=>aj (fun(mm:Nat) f H'=> ∃(k:Nat),∃F',F9.le F'/\Hb H F' H' [b2,b4] R/\aA f [(2,(pT b1 0)),(3,(pT b3 0)),(51,(S_ an a.l aw)),(52,(a.l.length:Int)),(53,(k:Int))]/\mm=a.l.length-k/\(k<=a.l.length)/\(∀q,q<k->okL c a (dV a q))) _ ⟨0,_,fR,a5,f_,V,M,(fun q h=>absurd h (a0D _))⟩ ?_
 rintro hL h9 hV ⟨k,f4,a_,ar,dk,rfl,hk,hok⟩ fj;refine au _ dk (fun _=>?_);clear dk;replace hT:=hT.mono a_;replace E:=E.mono a_;replace N:=N.mono a_;refine am 1 V (wT 2 [] 54 54 [] [(54,(decide ((k:Int)<(a.l.length:Int))))] V fun _=>zd 4 6 (fun go=>?_) fun go=>?_)
 ·refine ab ?_;obtain⟨hl,d2⟩:=Sv.view (SR.sv E ar);have g9:=LocT.fx (d2 k);refine bK 2 0 55 56 [] [(56,(aG [(.bool (a.l.getD k v_).inS),(a.l.getD k v_).x]))] (Ha_ (Sv.ix (j:=(k:Int)) (SR.sv E ar)) (Hl_ 1 (qn 39 0 2 (LocT.vw (d2 k)) V V V V) Hn_)) K_ V fun _=>zn ar V fun e5 hW fi=>sgo 1 3 1 0 [] [] (Hr_ 3 2 Hn_) fi V V fun hw hX bb=>ae 2 V (wT 3 [] 1 0 [9,10] [(9,(iI 0)),(10,(iI 5))] V fun _=>aU 1 57 58 [] [(58,(.bool (a.l.getD k v_).inS))] (Hr_ 1 2 Hn_) bb V V fun _=>?_)
  refine ba (fun f H'=> ∃(lo:Int) (hi:Int),∃F',f4.le F'/\Hb H F' H' [b2,b4,(fP e5 [(.bool (a.l.getD k v_).inS),(a.l.getD k v_).x])] R/\aA f [(2,(pT b1 0)),(3,(pT b3 0)),(8,(pT e5 0)),(9,lo),(10,hi),(51,(S_ an a.l aw)),(52,(a.l.length:Int)),(53,(k:Int))]/\(((a.l.getD k v_).inS=true/\lo=c.m/\hi=a.k)\/((a.l.getD k v_).inS=false/\lo=0/\hi=5))/\(in64 lo)/\(in64 hi)) (fun e1=>?_) ?_
  ·refine zI 0 0 (fun gt=>?_) fun gt=>?_
   ·refine sdr0 0 59 62 [9,10] [(9,c.m),(10,a.k)] (Hr_ 1 0 (Hr_ 3 1 Hn_)) bb V V V fun _=>?_
    exact e1 _ _ ⟨c.m,a.k,_,fR,bb,f_,(.inl ⟨by assumption,V,V⟩),M,M⟩
   exact e1 _ _ ⟨0,5,_,fR,bb,f_,(.inr ⟨by assumption,V,V⟩),M,M⟩
  skip;rintro ib hY ⟨lo,hi,hQ,c9,bl,dl,hlh,rlo,rhi⟩;refine au _ dl (fun _=>?_);clear dl;refine am 2 V (aU 1 63 72 [] [(72,((decide ((a.l.getD k v_).x<lo))||(decide (hi<=(a.l.getD k v_).x))))] (Hr_ 1 2 (bp 6 (fun _=>(ql 3 1 (j_ bl V) V V)) Hn_)) bl V V fun _=>zi 1 2 (fun a8=>?_) fun a8=>?_)
  ·have g1:=a8;try simp only[BS]at g1
   have ad: ¬SndP c a:=fun h=>ok_no hlh a8 (h.loc k M)
   refine wT 1 [] 4 4 [] [(4,false)] V fun _=>ak ⟨.inr V,_,V,false,_,(fT (fT (fT (ag) ax) a_) c9),(HS.forget bl),V,(bP_n ad)⟩
  have jp:okL c a (dV a k):=ok_yes hlh a8;refine wU 1 [] 53 53 [73] [(53,(iI ((k:Int)+1)))] (vi (n:=(k:Int)+1)) V fun _=>?_
  refine fj _ _ _ ?_ ⟨k+1,_,(fT (a_) c9),(HS.sub bl (a01 _ _)),f_,V,M,(cX hok jp)⟩;omega
 refine ab (aS 1 0 74 74 [] [(74,e4)] (Hr_ 0 0 Hn_) ar V V fun _=>zc (nb.inter_c ex c (HS.call ar) M M N hT X) ?_);rintro _ h3 ⟨c5,e2,A,f5,aq,b7,rfl,ay,hD,hA⟩;replace b7:=HS.back ar V b7;refine bK 2 2 76 77 [] [(76,(A.length:Int)),(77,(iI 0))] Hn_ K_ V fun _=>ae 2 V (aj (fun(mm:Nat) f H'=> ∃(r:Nat),∃F',f5.le F'/\Hb H F' H' [b2,b4] R/\aA f [(2,(pT b1 0)),(3,(pT b3 0)),(75,(S_ c5 A e2)),(76,(A.length:Int)),(77,(r:Int))]/\mm=a.l.length-r/\(r<=a.l.length)/\(∀q,q<r->∀y,Sy (lW c) q y->dV a q≠dV a y)) _ ⟨0,_,fR,b7,f_,V,M,(fun q h=>absurd h (a0D _))⟩ ?_)
 rintro hM ih h4 ⟨r,f6,Z,av,dn,rfl,hr,hdi⟩ f0;refine au _ dn (fun _=>?_);clear dn;replace hT:=(hT.mono aq).mono Z;replace E:=(E.mono aq).mono Z;replace N:=(N.mono aq).mono Z;replace ay:=ay.mono Z;refine am 1 V ?_;have hF:=(by assumption:cb c=true->InF c A) hv;have lp:=hF.len;refine wT 2 [] 78 78 [] [(78,(decide ((r:Int)<(A.length:Int))))] V fun _=>zd 4 6 (fun g2=>?_) fun g2=>?_
 ·have a0:Lst ((A).getD r v_) (Sy (lW c) r):=hF.row r M;have lz:=Lst.len a0 i4.1 (fun y h=>(jC vF h));have kr:=g0 a0 (fun y h=>(jC vF h));obtain⟨ap,em⟩:=Sv.view (SR.sv ay av);have ci:=fL (em r);refine wrp 2 79 81 [11,12] [(11,(r:Int)),(12,(sL (cA (ap r) 0) (A.getD r v_).length (cK (ap r) 0)))] (Ha_ (Sv.ix (j:=(r:Int)) (SR.sv ay av)) (Hl_ 2 (ql 22 0 (vL (em r)) V V) Hn_)) K_ V fun _=>wT 2 [] 82 84 [] [(82,(sL (cA (ap r) 0) (A.getD r v_).length (cK (ap r) 0))),(83,((A.getD r v_).length:Int)),(84,(iI 0))] V fun _=>aj (fun(mm:Nat) f H'=> ∃(j:Nat),∃F',f6.le F'/\Hb H F' H' [b2,b4] R/\aA f [(2,(pT b1 0)),(3,(pT b3 0)),(11,(r:Int)),(75,(S_ c5 A e2)),(76,(A.length:Int)),(77,(r:Int)),(82,(sL (cA (ap r) 0) (A.getD r v_).length (cK (ap r) 0))),(83,((A.getD r v_).length:Int)),(84,(j:Int))]/\mm=((A).getD r v_).length-j/\(j<=((A).getD r v_).length)/\(∀p,p<j->dV a r≠dV a (((A).getD r v_).getD p 0).toNat)) _ ⟨0,_,fR,av,f_,V,M,(fun q h=>absurd h (a0D _))⟩ ?_
  rintro hO ii h5 ⟨j,hR,a2,U,ds,rfl,hj,hdj⟩ f1;refine au _ ds (fun _=>?_);clear ds;replace E:=E.mono a2;replace ci:=ci.mono a2;refine am 1 V (wT 2 [] 85 85 [] [(85,(decide ((j:Int)<((A.getD r v_).length:Int))))] V fun _=>zd 4 5 (fun g3=>?_) fun g3=>?_)
  ·have l1:=dm kr (k:=j) M;have kx:=lst_at a0 (p:=j) M;obtain⟨hm,et⟩:=Sv.view (SR.sv ci U);have il:=fI (et j);refine wrp 2 86 87 [14] [(14,((A.getD r v_).getD j 0))] (Ha_ (Sv.ix (j:=(j:Int)) (SR.sv ci U)) (Hl_ 1 (ql 3 0 (vI (et j)) V V) Hn_)) K_ V fun _=>?_
   obtain⟨hn,bt⟩:=Sv.view (SR.sv E U);have ha:=LocT.fx (bt r);have hb:=LocT.fx (bt ((A.getD r v_).getD j 0).toNat);refine sdr0 1 88 98 [] [(98,(((a.l.getD r v_).inS==(a.l.getD ((A.getD r v_).getD j 0).toNat v_).inS)&&(((a.l.getD r v_).x==(a.l.getD ((A.getD r v_).getD j 0).toNat v_).x)&&true)))] (Hr_ 1 1 (Ha_ (Sv.ix (j:=(r:Int)) (SR.sv E U)) (Hl_ 4 (qn 39 0 2 (hc0 (LocT.vw (bt r))) V V V V) (Hr_ 6 1 (Ha_ (Sv.ix (j:=((A.getD r v_).getD j 0)) (SR.sv E U)) (Hl_ 9 (qn 39 0 2 (hc0 (LocT.vw (bt ((A.getD r v_).getD j 0).toNat))) V V V V) (Ho_ 10 (.o (.bool (((a.l.getD r v_).inS==(a.l.getD ((A.getD r v_).getD j 0).toNat v_).inS)&&(((a.l.getD r v_).x==(a.l.getD ((A.getD r v_).getD j 0).toNat v_).x)&&true)))) (agEq (P:=Tryz.prog) (t:=39) (xs:=[(.bool (a.l.getD r v_).inS),(a.l.getD r v_).x]) (ys:=[(.bool (a.l.getD ((A.getD r v_).getD j 0).toNat v_).inS),(a.l.getD ((A.getD r v_).getD j 0).toNat v_).x]) (bs:=[((a.l.getD r v_).inS==(a.l.getD ((A.getD r v_).getD j 0).toNat v_).inS),((a.l.getD r v_).x==(a.l.getD ((A.getD r v_).getD j 0).toNat v_).x)]) V V V K_ K_ (.cons ⟨by decide,_,_,V,V,eqB V⟩ (.cons ⟨by decide,_,_,V,V,eqI V⟩ .nil))) Hn_))))))) U V V V fun _=>zi 1 2 (fun a9=>?_) fun a9=>?_
   ·have g4:=a9;try simp only[BS]at g4
    have kl:dV a r=dV a (((A).getD r v_).getD j 0).toNat:=loc_eq a9;have ad: ¬SndP c a:=fun h=>h.dis r _ M kx kl
    refine wT 1 [] 4 4 [] [(4,false)] V fun _=>ak ⟨.inr V,_,V,false,_,(fT (fT (fT (fT (fT (ag) ax) a_) aq) Z) a2),(HS.forget U),V,(bP_n ad)⟩
   have dj:dV a r≠dV a (((A).getD r v_).getD j 0).toNat:=loc_nq a9;refine wU 1 [] 84 84 [99] [(84,(iI ((j:Int)+1)))] (vi (n:=(j:Int)+1)) V fun _=>?_
   refine f1 _ _ _ ?_ ⟨j+1,_,(a2),U,f_,V,M,(cX hdj dj)⟩;omega
  refine wU 1 [] 77 77 [100] [(77,(iI ((r:Int)+1)))] (vi (n:=(r:Int)+1)) V fun _=>?_
  refine f0 _ _ _ ?_ ⟨r+1,_,(fT (Z) a2),U,f_,V,M,(cX hdi (snd_row a0 M hdj))⟩;omega
 refine ab (aS 1 0 101 101 [] [(101,e4)] (Hr_ 0 0 Hn_) av V V fun _=>zc (mg.across_c ex c (HS.call av) M M N hT (fun j=>a0e (a6 j) M)) ?_);rintro _ h6 ⟨fd,f3,T,g8,f7,b6,b8,rfl,a1,hE,hB⟩;replace b8:=HS.back av V b8;refine bK 2 2 103 104 [] [(103,(T.length:Int)),(104,(iI 0))] Hn_ K_ V fun _=>ae 2 V (aj (fun(mm:Nat) f H'=> ∃(p:Nat),∃F',f7.le F'/\Hb H F' H' [b2,b4,g8] R/\aA f [(3,(pT b3 0)),(102,(S_ fd T f3)),(103,(T.length:Int)),(104,(p:Int))]/\mm=(T).length-p/\(p<=(T).length)/\(∀q,q<p->(dV a ((T).getD q 0).toNat).inS=true)) _ ⟨0,_,fR,b8,f_,V,M,(fun q h=>absurd h (a0D _))⟩ ?_)
 rintro hP ik h7 ⟨p,hS,a3,aa,dt,rfl,hp,dd⟩ f2;refine au _ dt (fun _=>?_);clear dt;replace E:=(E.mono b6).mono a3;replace a1:=a1.mono a3;refine am 1 V ?_;have ao:=(by assumption:cb c=true->Lst T (acS c)) hv;have kk:=g0 ao (fun r h=>jS vF (a0d _) h);have ll:=Lst.len ao i4.1 (fun r h=>jS vF (a0d _) h);refine wT 2 [] 105 105 [] [(105,(decide ((p:Int)<(T.length:Int))))] V fun _=>zd 4 5 (fun g5=>?_) fun g5=>?_
 ·have l0:=dm kk (k:=p) M;have ks:=lst_at ao (p:=p) M;obtain⟨ht,ez⟩:=Sv.view (OS.sv a1 aa (i:=2) V);have it:=fI (ez p);refine wrp 2 106 107 [16] [(16,(T.getD p 0))] (Ha_ (Sv.ix (j:=(p:Int)) (OS.sv a1 aa (i:=2) V)) (Hl_ 1 (ql 3 0 (vI (ez p)) V V) Hn_)) K_ V fun _=>?_
  obtain⟨hu,e0⟩:=Sv.view (SR.sv E aa);have he:=LocT.fx (e0 (T.getD p 0).toNat);refine aU 1 108 114 [] [(114,(!(a.l.getD (T.getD p 0).toNat v_).inS))] (Hr_ 1 1 (Ha_ (Sv.ix (j:=(T.getD p 0)) (SR.sv E aa)) (Hl_ 5 (ql 4 0 (LocT.vw (e0 (T.getD p 0).toNat)) V V) Hn_))) aa V V fun _=>zI 1 2 (fun c8=>?_) fun c8=>?_
  ·have ad: ¬SndP c a:=fun h=>by have h1:=h.acr _ ks;have h2:=c8;(unfold dV at h1;simp_all)
   refine wT 1 [] 4 4 [] [(4,false)] V fun _=>ak ⟨.inr V,_,V,false,_,(fT (fT (fT (fT (fT (fT (ag) ax) a_) aq) Z) b6) a3),(HS.forget aa),V,(bP_n ad)⟩
  have dj:(dV a ((T).getD p 0).toNat).inS=true:=by have h2:=c8;(unfold dV;simp_all)
  refine wU 1 [] 104 104 [115] [(104,(iI ((p:Int)+1)))] (vi (n:=(p:Int)+1)) V fun _=>?_
  refine f2 _ _ _ ?_ ⟨p+1,_,(a3),aa,f_,V,M,(cX dd dj)⟩;omega
 have jk:SndP c a:=⟨hv,jo,ko,kn,hz,fun q hq=>hok q M,fun q y hq=>hdi q M y,snd_acr ao M dd⟩
 refine wT 1 [] 4 4 [] [(4,true)] V fun _=>ak ⟨.inr V,_,V,true,_,(fT (fT (fT (fT (fT (fT (ag) ax) a_) aq) Z) b6) a3),(HS.forget aa),V,(bP_y jk)⟩
theorem rsound_c{a2 a7}(c:VFnT){a9 bz a8 bt}(a:AllT)(hs:Hb H F H [] R)(hm:in64 c.m)(hn:in64 c.r)(a_:Sr F a2 c.u a7)(E:Sr F a8 a.l bt)(hk:Sr F a9 a.p bz)(hl:in64 a.k)(hT:TB 37 tabC F)(a6: ∀j,(c.u.getD j v_).v.length<=1073741822):kKt ex 23 [(aG [c.m,c.r,(S_ a2 c.u a7)]),(aG [(S_ a8 a.l bt),(S_ a9 a.p bz),a.k])] H fun v H'=> ∃(o:Bool),∃F',F.le F'/\Hb H F' H' [] R/\v= .bool o/\o=bP (SndP c a):=by
 refine aB Tryz.func23 V V (am 1 V (ab (aT (aN hs V V) V V ?_)));rintro _ H2 _ ⟨b1,rfl,f6,_⟩;refine aT (aN f6 V V) V V ?_;rintro _ H4 _ ⟨b3,rfl,ay,_⟩;refine za (.bool false) (ae 3 V (sj 1 12 34 [] [(34,((((!(cb c))||((a.l.length:Int) !=c.r))||(decide (a.k<c.m)))||(decide ((3000:Int)<a.k))))] (Hr_ 0 0 (Hk_ 1 (jc ay fun _ _ j q=>m3.eN ex c q M M (a_.mono j) (hT.mono j) (fun j=>a0e (a6 j) M)) (Hj1_ 5 (fun _=>(jl ay 29 0 1 V V V)) (Hj1_ 8 (fun _=>(jl ay 3 1 0 V V V)) (Hj1_ 13 (fun _=>(jl ay 3 2 1 V V V)) (Hj1_ 15 (fun _=>(jl ay 3 0 0 V V V)) (Hj1_ 20 (fun _=>(jl ay 3 2 1 V V V)) Hn_))))))) ay V V fun hJ H5 F5 av b6=>?_));replace hT:=hT.mono av;replace E:=E.mono av;replace a_:=a_.mono av;refine zi 1 2 (fun b5=>?_) fun b5=>?_
 ·have c6:=b5;try simp only[BS]at c6
  have ad: ¬SndP c a:=snd_no0 b5;refine wT 1 [] 4 4 [] [(4,false)] V fun _=>ak ⟨.inr V,_,V,false,_,(av),(HS.forget b6),V,(bP_n ad)⟩
 have ck:=snd_yes0 b5;have hv:=ck.1;have hQ:=ck.2.1;have ii:=ck.2.2.1;have ih:=ck.2.2.2;have vF:=e9 hv;have j2:=vF.nb;have gb:=vF.r;have ka:=vF.m;let dd:Value:=(aG [c.m,c.r,(S_ a2 c.u a7)])
 refine ab (aS 1 0 36 36 [] [(36,dd)] (Hr_ 0 0 Hn_) b6 V V fun _=>zc (mi.kZ ex c (HS.call b6) M M a_ hT (fun j=>a0e (a6 j) M)) ?_);rintro _ H9 ⟨fd,f7,x9,hF,hM,y9,F9,ax,an,rfl,cc,hp,hL,hK⟩;replace an:=HS.back b6 V an;replace hT:=hT.mono ax;replace E:=E.mono ax;replace a_:=a_.mono ax;refine bK 5 2 38 39 [5,6,35] [(5,(S_ fd x9 f7))] Hn_ K_ V fun _=>ae 3 V ?_
 have bk:BkF c x9 _:=(by assumption:cb c=true->BkF c x9 _) hv;have j1:=bk.lx;have dt:Lst ((x9).getD 0 v_) (LIn c 0):=bk.hx 0 M;obtain⟨g5,ch⟩:=Sv.view (SR.sv cc an);have hO:=fL (ch 0);refine wrp 1 40 44 [] [(44,(decide ((0:Int)<((x9.getD 0 v_).length:Int))))] (Ha_ (Sv.ix (j:=0) (SR.sv cc an)) (Hl_ 2 (ql 22 0 (vL (ch 0)) V V) Hn_)) K_ V fun _=>zd 1 2 (fun fi=>?_) fun fi=>?_
 ·have ad: ¬SndP c a:=fun h=>(in_some dt M M).elim fun r hr=>h.z r hr
  refine wT 1 [] 4 4 [] [(4,false)] V fun _=>ak ⟨.inr V,_,V,false,_,(fT (av) ax),(HS.forget an),V,(bP_n ad)⟩
 have hz: ∀r,¬ptS c 0 0 r:=in_none dt M M;refine aC V (cN 1 45 45 [] [(45,dd)] (Hr_ 0 0 Hn_) an V V fun _=>aQ (W:=[]) (aP V V V) V V V (ni.nA ex c (HS.call an.log0) M M a_ hT X) (kb V) ?_);rintro _ e5 ⟨bb,b2,A,hw,ap,Z,rfl,U,hg,he⟩;refine⟨Wr.did Z.log,fun e1 dl=>?_⟩;replace Z:=HS.back an.log0 V Z;replace Z:=HS.lg Z an dl;generalize ({e5 with log:=e1}:Heap)=go at Z⊢;replace hT:=hT.mono ap;replace a_:=a_.mono ap;refine bj (v:=dd) (id:= .l b1) (gw (i:=0) V V V (HS.hc Z.log0 (i:=0) V) V V V) V V (gf V) (⟨.inr a0g,q_⟩) (aQ (W:=[]) (aP V V V) V V V (mj.rac_c ex c (HS.call Z.log0) M M a_ hT (fun j=>a0e (a6 j) M)) (kb V) ?_);rintro _ e6 ⟨bl,b4,a1,e3,aq,ag,rfl,a5,hh,hf⟩;refine⟨Wr.did ag.log,fun e2 dn=>?_⟩;replace ag:=HS.back Z.log0 V ag;replace ag:=HS.lg ag Z dn;generalize ({e6 with log:=e2}:Heap)=gt at ag⊢;refine cN 2 1 0 [7,8] [(7,(S_ bb A b2)),(8,(S_ bl a1 b4))] Hn_ ag V V fun _=>aW 3 V ?_
 have f5:=(by assumption:cb c=true->InF c A) hv;have jw:=f5.len;have a0:=(by assumption:cb c=true->Lst a1 (acS c)) hv;have js:=Lst.len a0 gb.1 (fun r h=>jS vF (a0d _) h);let d1:Fp:=(fP b1 [c.m,c.r,(S_ a2 c.u a7)])
 let d2:Fp:=(fP b3 [(S_ a8 a.l bt),(S_ a9 a.p bz),a.k])
 refine wT 2 [] 1 0 [9] [(9,(iI 0))] V fun _=>aj (fun(mm:Nat) f H'=> ∃(r:Nat),∃F',e3.le F'/\Hb H F' H' [d1,d2] R/\aA f [(2,(pT b1 0)),(3,(pT b3 0)),(7,(S_ bb A b2)),(8,(S_ bl a1 b4)),(9,(r:Int))]/\mm=a.l.length-r/\(r<=a.l.length)/\(∀q,q<r->okL c a (dV a q))/\(∀q,q<r->acS c q->(dV a q).inS=true)/\(∀q,q<r->∀y,Sy (lW c) q y->dV a q≠dV a y)) _ ⟨0,_,fR,ag,f_,V,M,(fun q h=>absurd h (a0D _)),(fun q h=>absurd h (a0D _)),(fun q h=>absurd h (a0D _))⟩ ?_
 rintro ht hG hB ⟨r,e4,aa,ar,b8,rfl,hr,hok,b7,hdi⟩ ez;refine au _ b8 (fun _=>?_);clear b8;replace hT:=(hT.mono aq).mono aa;replace E:=((E.mono ap).mono aq).mono aa;replace U:=(U.mono aq).mono aa;replace a5:=a5.mono aa;refine am 2 V (aU 1 49 52 [] [(52,(decide ((r:Int)<c.r)))] (Hr_ 2 0 Hn_) ar V V fun _=>zd 4 5 (fun fj=>?_) fun fj=>?_)
 ·have al:Lst ((A).getD r v_) (Sy (lW c) r):=f5.row r M;have kc:=Lst.len al gb.1 (fun y h=>(jC vF h));have it:=g0 al (fun y h=>(jC vF h));refine ab ?_;obtain⟨g6,ci⟩:=Sv.view (SR.sv E ar);have f8:=LocT.fx (ci r);refine aS 5 0 55 59 [] [(59,(aG [(.bool (a.l.getD r v_).inS),(a.l.getD r v_).x]))] (Hr_ 1 1 (Ha_ (Sv.ix (j:=(r:Int)) (SR.sv E ar)) (Hl_ 4 (qn 39 0 2 (LocT.vw (ci r)) V V V V) Hn_))) ar V V fun _=>zn ar V fun ds hC et=>sgo 1 6 1 0 [] [] (Hr_ 6 2 Hn_) et V V fun hb hD T=>ae 3 V (aU 1 60 95 [] [(95,(((a.l.getD r v_).inS&&((decide ((a.l.getD r v_).x<c.m))||(decide (a.k<=(a.l.getD r v_).x))))||((!(a.l.getD r v_).inS)&&(((decide ((a.l.getD r v_).x<0))||(decide ((5:Int)<=(a.l.getD r v_).x)))||im a1 (r:Int)))))] (Hr_ 1 2 (bp 4 (fun _=>(ql 3 1 (j_ T V) V V)) (bp 6 (fun _=>(ql 3 0 (h_ T V) V V)) (iu 10 (fun _ _=>(ql 3 1 (j_ T V) V V)) (iu 12 (fun _ _=>(ql 3 2 (i_ T V) V V)) (bp 18 (fun _=>(ql 4 0 (j_ T V) V V)) (iu 22 (fun _ _=>(ql 3 1 (j_ T V) V V)) (Hl3_ 26 (fun _ _ _=>(ql 3 1 (j_ T V) V V)) (Hc3_ 32 (fun g1 g2 g3=>(m6.cG ex a1 (r:Int) (HS.call T) a5 (by(try simp only[BS]at g1 g2 g3);(first|(dsimp only;omega)|omega)) hT (by(try simp only[BS]at g1 g2 g3);(first|(dsimp only;omega)|omega)))) Hn_))))))))) T V V fun _=>zi 1 2 (fun a3=>?_) fun a3=>?_)
  ·have f0:=a3;try simp only[BS]at f0
   have ad: ¬SndP c a:=rok_no a0 M a3;refine wT 1 [] 4 4 [] [(4,false)] V fun _=>ak ⟨.inr V,_,V,false,_,(fT (fT (fT (fT (av) ax) ap) aq) aa),(HS.forget T),V,(bP_n ad)⟩
  have cv:=rok_yes (c:=c) (a:=a) a0 a3;refine wT 2 [] 1 0 [11] [(11,(iI 0))] V fun _=>aj (fun(mm:Nat) f H'=> ∃(j:Nat),∃F',e4.le F'/\Hb H F' H' [d1,d2,(fP ds [(.bool (a.l.getD r v_).inS),(a.l.getD r v_).x])] R/\aA f [(2,(pT b1 0)),(3,(pT b3 0)),(7,(S_ bb A b2)),(8,(S_ bl a1 b4)),(9,(r:Int)),(10,(pT ds 0)),(11,(j:Int))]/\mm=((A).getD r v_).length-j/\(j<=((A).getD r v_).length)/\(∀p,p<j->dV a r≠dV a (((A).getD r v_).getD p 0).toNat)) _ ⟨0,_,fR,T,f_,V,M,(fun q h=>absurd h (a0D _))⟩ ?_
  rintro hu hH hE ⟨j,hA,aw,N,b9,rfl,hj,hdj⟩ e0;refine au _ b9 (fun _=>?_);clear b9;replace E:=E.mono aw;replace U:=U.mono aw;refine am 2 V ?_;obtain⟨g7,co⟩:=Sv.view (SR.sv U N);have hP:=fL (co r);refine wrp 1 96 102 [] [(102,(decide ((j:Int)<((A.getD r v_).length:Int))))] (Ha_ (Sv.ix (j:=(r:Int)) (SR.sv U N)) (Hl_ 4 (ql 22 0 (vL (co r)) V V) Hn_)) K_ V fun _=>zd 4 5 (fun f1=>?_) fun f1=>?_
  ·have kd:=dm it (k:=j) M;have iv:=lst_at al (p:=j) M;obtain⟨g8,c5⟩:=Sv.view (SR.sv U N);have dv:=fL (c5 r);obtain⟨g9,c7⟩:=Sv.view (SR.sv dv N);have hI:=fI (c7 j);obtain⟨ha,c8⟩:=Sv.view (SR.sv E N);have f9:=LocT.fx (c8 ((A.getD r v_).getD j 0).toNat);refine sdr0 1 105 117 [] [(117,(((a.l.getD ((A.getD r v_).getD j 0).toNat v_).inS==(a.l.getD r v_).inS)&&(((a.l.getD ((A.getD r v_).getD j 0).toNat v_).x==(a.l.getD r v_).x)&&true)))] (Hr_ 1 1 (Ha_ (Sv.ix (j:=(r:Int)) (SR.sv U N)) (Hl_ 5 (ql 22 0 (hc0 (vL (c5 r))) V V) (Ha_ (Sv.ix (j:=(j:Int)) (SR.sv dv N)) (Hl_ 8 (ql 3 0 (hc0 (vI (c7 j))) V V) (Ha_ (Sv.ix (j:=((A.getD r v_).getD j 0)) (SR.sv E N)) (Hl_ 10 (qn 39 0 2 (hc0 (LocT.vw (c8 ((A.getD r v_).getD j 0).toNat))) V V V V) (Hr_ 11 2 (Ho_ 12 (.o (.bool (((a.l.getD ((A.getD r v_).getD j 0).toNat v_).inS==(a.l.getD r v_).inS)&&(((a.l.getD ((A.getD r v_).getD j 0).toNat v_).x==(a.l.getD r v_).x)&&true)))) (agEq (P:=Tryz.prog) (t:=39) (xs:=[(.bool (a.l.getD ((A.getD r v_).getD j 0).toNat v_).inS),(a.l.getD ((A.getD r v_).getD j 0).toNat v_).x]) (ys:=[(.bool (a.l.getD r v_).inS),(a.l.getD r v_).x]) (bs:=[((a.l.getD ((A.getD r v_).getD j 0).toNat v_).inS==(a.l.getD r v_).inS),((a.l.getD ((A.getD r v_).getD j 0).toNat v_).x==(a.l.getD r v_).x)]) V V V K_ K_ (.cons ⟨by decide,_,_,V,V,eqB V⟩ (.cons ⟨by decide,_,_,V,V,eqI V⟩ .nil))) Hn_))))))))) N V V V fun _=>zi 1 2 (fun a4=>?_) fun a4=>?_
   ·have f2:=a4;try simp only[BS]at f2
    have ib:dV a (((A).getD r v_).getD j 0).toNat=dV a r:=loc_eq a4;have ad: ¬SndP c a:=fun h=>h.dis r _ M iv ib.symm
    refine wT 1 [] 4 4 [] [(4,false)] V fun _=>ak ⟨.inr V,_,V,false,_,(fT (fT (fT (fT (fT (av) ax) ap) aq) aa) aw),(HS.forget N),V,(bP_n ad)⟩
   have ik:dV a r≠dV a (((A).getD r v_).getD j 0).toNat:=fun e=>loc_nq a4 e.symm
   refine wU 1 [] 103 104 [11] [(11,(iI ((j:Int)+1)))] (vi (n:=(j:Int)+1)) V fun _=>?_
   refine e0 _ _ _ ?_ ⟨j+1,_,(aw),N,f_,V,M,(cX hdj ik)⟩;omega
  refine wU 1 [] 53 54 [9] [(9,(iI ((r:Int)+1)))] (vi (n:=(r:Int)+1)) V fun _=>?_
  refine ez _ _ _ ?_ ⟨r+1,_,(fT (aa) aw),(HS.sub N (a01 _ _)),f_,V,M,(cX hok cv.1),(cX b7 cv.2),(cX hdi (snd_row al M hdj))⟩;omega
 have hy:SndP c a:=⟨hv,hQ,ii,ih,hz,fun q hq=>hok q M,fun q y hq=>hdi q M y,fun q hq=>b7 q (by(have h2:=jS vF (a0d _) hq;omega)) hq⟩
 refine wT 1 [] 4 4 [] [(4,true)] V fun _=>ak ⟨.inr V,_,V,true,_,(fT (fT (fT (fT (av) ax) ap) aq) aa),(HS.forget ar),V,(bP_y hy)⟩
end nv
open nv
namespace nr
variable (ex:FuncId) {F:Fz} {H:Heap} {R:List Fp}
def SpO(A:List SpiT):Prop:= ∀s∈A,s.oth.length<=3000
theorem spo_snoc{A x}(h:SpO A)(E:x.oth.length<=3000):SpO (A++[x]):=fun s hs=>by
 rw[a09,a0b]at hs;rcases hs with hs|rfl
 ·exact h s hs
 exact E
def conV2(A:List Bool)(x:Int):Bool:= !(A.getD x.toNat false)
def uns(A:List Bool)(l:List Int):List Int:=l.filter (conV2 A)
theorem j7{A:List Bool}{l o:List Int}{i:Nat}(h:i<l.length)(E:o=uns A (l.take i)):(A.getD (l.getD i 0).toNat false=false->o++[l.getD i 0]=uns A (l.take (i+1)))/\(A.getD (l.getD i 0).toNat false=true->o=uns A (l.take (i+1))):=by
 unfold uns at E⊢;rw[bx h (d:=0),List.filter_append,←E];constructor
 ·intro hc;unfold conV2;rw[a1D,hc];rfl
 intro hc;unfold conV2;rw[a1D,hc];simp
theorem uns_len{A l}:(uns A l).length<=l.length:=a16 _ _
theorem uns_mem{A l}{x:Int}(h:x∈uns A l):x∈l/\A.getD x.toNat false=false:=by unfold uns conV2 at h;rw[a22]at h;exact⟨h.1,by simpa using h.2⟩
theorem set_true{T:List Bool}{i j:Nat}:(T.set i true).getD j false=true↔(i=j/\i<T.length)\/T.getD j false=true:=by
 rw[ee];by_cases h:i=j/\j<T.length
 ·obtain⟨rfl,E⟩:=h;rw[if_pos ⟨V,E⟩];exact⟨fun _=> .inl ⟨V,E⟩,fun _=>rfl⟩
 rw[if_neg h];exact⟨.inr,fun N=>N.elim (fun A=>absurd ⟨A.1,A.1▸A.2⟩ h) id⟩
theorem set_false{A:List Bool}{i j:Nat}(h:(A.set i true).getD j false=false):A.getD j false=false:=by
 rcases E:A.getD j false with _|_
 ·rfl
 rw[set_true.2 (.inr E)]at h;exact h
theorem uns_lt{N:List Bool}{l:List Int}{x:Int}(U:x∈l)(T:x.toNat<N.length):(uns (N.set x.toNat true) l).length<l.length:=by
 unfold uns;rcases a0k (l.filter (conV2 (N.set x.toNat true))).length l.length with h|h
 ·exact h
 exfalso;have E:=a16 (conV2 (N.set x.toNat true)) l;have A:=(List.length_filter_eq_length_iff.1 (Nat.le_antisymm E h)) x U;unfold conV2 at A;rw[set_true.2 (.inl ⟨V,T⟩)]at A;cases A
structure SpF(c:VFnT)(sp:List Bool)(sl:List SpiT):Prop where
 len:sp.length=c.r.toNat
 cnt:sl.length<=3000+sp.count true
 oth:SpO sl
theorem cnt_set{l:List Bool}: ∀{i:Nat},i<l.length->l.getD i false=false->(l.set i true).count true=l.count true+1:=by
 induction l with
 |nil=>intro i h;exact absurd h (a0D _)
 |cons b l ih=>
  intro i h A
  cases i with
  |zero=>
   have A:b=false:=A
   subst A
   rw[List.set_cons_zero,List.count_cons_self,List.count_cons_of_ne e_]
  |succ i=>
   rw[a24,List.count_cons,List.count_cons,ih (Nat.lt_of_succ_lt_succ h) A];omega
theorem SpF.set{c:VFnT}{N:List Bool}{T:List SpiT}{x:SpiT}{r:Nat}(h:SpF c N T)(Z:r<c.r.toNat)(hs:N.getD r false=false)(U:x.oth.length<=3000):SpF c (N.set r true) (T++[x]):=by have A:=h.len;have E:=h.cnt;exact⟨a0f.trans A,by rw[cnt_set M hs,a02,a0j];omega,spo_snoc h.oth U⟩
theorem SpF.small{c Z U}(h:SpF c Z U)(v:VF c):U.length<=6000:=by have A:=h.len;have E:=h.cnt;have N:=v.r;have T:=List.count_le_length (a:=true) (l:=Z);omega
theorem spf_0{c Z U q}(A:Z.length=c.r.toNat)(N:U.length<=q)(T:q<=3000)(E:SpO U):SpF c Z U:=⟨A,M,E⟩
theorem mem_mono{l m:List Int}{lo hi:Int}(h: ∀x∈l,lo<=x/\x<hi)(A: ∀x∈m,x∈l): ∀x∈m,lo<=x/\x<hi:=fun x E=>h x (A x E)
theorem uns_uns{A:List Bool}{l:List Int}{i:Nat}:uns (A.set i true) (uns A l)=uns (A.set i true) l:=by
 unfold uns;rw[List.filter_filter];refine List.filter_congr fun x _=>?_
 unfold conV2;rcases h:(A.set i true).getD x.toNat false with _|_
 ·rw[set_false h];rfl
 rfl
theorem uns_lt2{A:List Bool}{l:List Int}{x:Int}(N:x∈uns A l)(E:x.toNat<A.length):(uns (A.set x.toNat true) l).length<(uns A l).length:=by rw[←uns_uns];exact uns_lt N E
theorem fcall_c{a_ aa}(c:VFnT)(r:Int)(hs:Hb H F H [] R)(e3:in64 c.m)(e4:in64 c.r)(N:Sr F a_ c.u aa)(hr:in64 r)(hT:TB 37 tabC F)(ai: ∀j,(c.u.getD j v_).v.length<=1073741822)(hv:cb c=true):kKt ex 105 [(aG [c.m,c.r,(S_ a_ c.u aa)]),r] H fun v H'=> ∃(x:Int) (y:Int),∃F',F.le F'/\Hb H F' H' [] R/\v= .tuple ⟨[iI x,iI y]⟩/\(in64 x)/\(in64 y):=by
 have vF:=e9 hv;have g7:=vF.nb;have e0:=vF.r;refine aB Tryz.func105 V V (am 1 V (ab (aT (aN hs V V) V V ?_)));rintro _ H2 _ ⟨b1,rfl,b9,_⟩;let bt:Fp:=(fP b1 [c.m,c.r,(S_ a_ c.u aa)])
 refine wTo 2 1 [] 4 5 [] [(4,(iI 0)),(5,(iI 0))] V fun _=>ae 3 V (wT 2 [] 1 0 [6] [(6,(iI 0))] V fun _=>aj (fun(mm:Nat) f H'=> ∃(b:Nat),∃F',F.le F'/\Hb H F' H' [bt] R/\aA f [(1,r),(2,(pT b1 0)),(6,(b:Int))]/\mm=c.u.length-b/\(b<=c.u.length)) _ ⟨0,_,fR,b9,f_,V,M⟩ ?_)
 rintro f4 f5 H5 ⟨b,F5,ag,an,bl,rfl,hb⟩ cc;refine au _ bl (fun _=>?_);clear bl;replace hT:=hT.mono ag;replace N:=N.mono ag;refine am 2 V (aU 1 9 13 [] [(13,(decide ((b:Int)<(c.u.length:Int))))] (Hr_ 2 0 Hn_) an V V fun _=>zd 4 5 (fun c7=>?_) fun c7=>?_)
 ·have a0:b<c.u.length:=M
  have g5:=ai b;refine ab (aS 2 0 16 17 [] [(16,(aG [c.m,c.r,(S_ a_ c.u aa)])),(17,(b:Int))] (Hr_ 0 0 Hn_) an V V fun _=>zc (mj.rlp_c ex c (b:Int) (HS.call an) M M N M hT (fun j=>a0e (ai j) M)) ?_);rintro _ H9 ⟨aw,a5,U,F9,ar,a1,rfl,aq,f3,f2⟩;replace a1:=HS.back an V a1;refine za (S_ aw U a5) (ae 2 V ?_);have pf:PtF c b U:=(by assumption:cb c=true->0<=((b:Nat):Int)->((b:Nat):Int)<(c.u.length:Int)->PtF c ((b:Nat):Int).toNat U) hv M M;have g8:(U).length=(c.u.getD b v_).v.length+1:=pf.len;refine wT 2 [] 1 0 [8] [(8,(iI 0))] V fun _=>aj (fun(mm:Nat) f H'=> ∃(k:Nat),∃F',F9.le F'/\Hb H F' H' [bt] R/\aA f [(1,r),(2,(pT b1 0)),(6,(b:Int)),(7,(S_ aw U a5)),(8,(k:Int))]/\mm=(c.u.getD b v_).v.length-k/\(k<=(c.u.getD b v_).v.length)) _ ⟨0,_,fR,a1,f_,V,M⟩ ?_
  rintro fi f1 b5 ⟨k,fj,T,A,ay,rfl,hk⟩ b2;refine au _ ay (fun _=>?_);clear ay;replace hT:=(hT.mono ar).mono T;replace N:=(N.mono ar).mono T;replace aq:=aq.mono T;refine am 2 V ?_;obtain⟨e1,a2⟩:=Sv.view (SR.sv N A);obtain⟨ch,ci,co,c5,dv⟩:=BlkT.fx (a2 b);refine aU 1 19 27 [] [(27,(decide ((k:Int)<((c.u.getD b v_).v.length:Int))))] (Hr_ 2 0 (Ha_ (Sv.ix (j:=(b:Int)) (SR.sv N A)) (Hl_ 6 (ql 80 0 (BlkT.vw (a2 b)) V V) Hn_))) A V V fun _=>zd 4 5 (fun b7=>?_) fun b7=>?_
  ·have a6:k<(c.u.getD b v_).v.length:=M
   have g4:((((U).getD (((k:Nat):Int)+1).toNat v_).length:Nat):Int)<=c.r:=Lst.len (pf.pt (k+1) a6) e0.1 (fun r h=>iH vF a0 h);have e5:((c.u.getD b v_).v.getD k v_).args.length<=6:=(bD (vF.v b a0 k a6)).2.2;have g6:=acV_len (v:=((c.u.getD b v_).v.getD k v_)) (l:=((U).getD (((k:Nat):Int)+1).toNat v_));refine aC V ?_;obtain⟨e2,a3⟩:=Sv.view (SR.sv N A);obtain⟨c6,c8,c9,dd,av⟩:=BlkT.fx (a3 b);obtain⟨ax,a4⟩:=Sv.view (SR.sv av A);obtain⟨dk,dl,dn,ds,dt,bk⟩:=VInT.fx (a4 k);refine cN 11 30 40 [] [(38,(aG [((c.u.getD b v_).v.getD k v_).i.op,((c.u.getD b v_).v.getD k v_).i.a,((c.u.getD b v_).v.getD k v_).i.b,((c.u.getD b v_).v.getD k v_).i.c,((c.u.getD b v_).v.getD k v_).i.n,(sL (cA (ax k) 5) ((c.u.getD b v_).v.getD k v_).args.length (cK (ax k) 5))])),(39,(S_ aw U a5)),(40,(k:Int))] (Hr_ 1 0 (Ha_ (Sv.ix (j:=(b:Int)) (SR.sv N A)) (Hl_ 5 (ql 80 0 (hc0 (BlkT.vw (a3 b))) V V) (Ha_ (Sv.ix (j:=(k:Int)) (SR.sv av A)) (Hl_ 8 (qn 88 0 6 (hc0 (VInT.vw (a4 k))) V V V V) Hn_))))) A V V fun _=>aQ (W:=[]) (aP V V V) V V V (mh.oj ex U (k:Int) (HS.call A.log0) aq M hT M) (⟨.inl V,.inl V,.inr trivial,.inr trivial,.inr trivial,.inr trivial,.inr trivial,.inr trivial,.inr trivial,.inr a0g,q_⟩) ?_
   rintro _ _ ⟨et,e6,f6,rfl,rfl,a9,rfl⟩;refine⟨fun b hb=>absurd hb a0g,fun b3 a7=>?_⟩;have Z:=HS.lg A.log0 A a7;generalize ({{b5 with log:=[]} with log:=b3}:Heap)=d2 at Z⊢;refine aQ (W:=[]) (aP V V V) V V V (mh.acall_c ex ((c.u.getD b v_).v.getD k v_) (U.getD ((k:Int)+1).toNat v_) (HS.call Z.log0) M M M M M bk a9 hT M M) (kb V) ?_;rintro _ b6 ⟨ez,fd,f7,f0,ap,E,rfl,bb,rfl⟩;refine⟨Wr.did E.log,fun b4 a8=>?_⟩;replace E:=HS.back Z.log0 V E;replace E:=HS.lg E Z a8;generalize ({b6 with log:=b4}:Heap)=em at E⊢;replace hT:=hT.mono ap;refine cN 2 43 44 [] [(44,(im (acV ((c.u.getD b v_).v.getD k v_) (U.getD ((k:Int)+1).toNat v_)) r))] (Hc_ 14 (m6.cG ex (acV ((c.u.getD b v_).v.getD k v_) (U.getD ((k:Int)+1).toNat v_)) r (HS.call E.log0) bb M hT M) Hn_) E V V fun _=>aW 1 V (zI 1 2 (fun b8=>?_) fun b8=>?_)
   ·refine wT 1 [] 4 5 [45,46] [(4,(b:Int)),(5,(k:Int))] V fun _=>ak ⟨.inr V,_,V,(b:Int),(k:Int),_,(fT (fT (fT (ag) ar) T) ap),(HS.forget E),V,M,M⟩
   refine wU 1 [] 28 29 [8] [(8,(iI ((k:Int)+1)))] (vi (n:=(k:Int)+1)) V fun _=>?_
   refine b2 _ _ _ ?_ ⟨k+1,_,(fT (T) ap),E,f_,V,M⟩;omega
  refine wU 1 [] 14 15 [6] [(6,(iI ((b:Int)+1)))] (vi (n:=(b:Int)+1)) V fun _=>?_
  refine cc _ _ _ ?_ ⟨b+1,_,(fT (fT (ag) ar) T),A,f_,V,M⟩;omega
 refine wT 1 [] 4 5 [] [(4,(iI (-1))),(5,(iI (-1)))] V fun _=>ak ⟨.inr V,_,V,(-1),(-1),_,(ag),(HS.forget an),V,M,M⟩
theorem ralloc_c{a9 bb}(c:VFnT)(hs:Hb H F H [] R)(wX:in64 c.m)(wY:in64 c.r)(a8:Sr F a9 c.u bb)(hT:TB 37 tabC F)(ly: ∀j,(c.u.getD j v_).v.length<=1073741822)(hv:cb c=true)(CD:c.m+c.r<=3000)(hz: ∀r,¬ptS c 0 0 r):kKt ex 28 [(aG [c.m,c.r,(sL a9 c.u.length bb)])] H fun v H'=> ∃(x:AllT),∃p2,∃(qF:Nat),∃p3,∃(qG:Nat) (e:Int),∃F',F.le F'/\Hb H F' H' [] R/\v= .tuple ⟨[.agg ⟨[sL p2 x.l.length qF,sL p3 x.p.length qG,iI x.k]⟩,iI e]⟩/\in64 x.k/\Sr F' p2 x.l qF/\Sr F' p3 x.p qG/\e=0/\(x.l.length=c.r.toNat)/\(x.p.length<=6000)/\(SpO x.p):=by
 have vF:=e9 hv;have Cz:=vF.nb;have yO:=vF.r;have CB:=vF.m;have AM:(List.replicate c.r.toNat false).length=c.r.toNat:=a0K;have w3:(List.replicate c.r.toNat (v_:LocT)).length=c.r.toNat:=a0K;refine aB Tryz.func28 V V (am 1 V (ab (aT (aN hs V V) V V ?_)));rintro _ H2 _ ⟨b1,rfl,t3,_⟩;let k5:Value:=(aG [c.m,c.r,(sL a9 c.u.length bb)])
 refine zn t3 V fun b3 H4 qk=>za (iI 0) (ae 3 V (ab (aS 1 0 17 17 [] [(17,k5)] (Hr_ 0 0 Hn_) qk V V fun _=>zc (m3.eN ex c (HS.call qk) M M a8 hT (fun j=>a0e (ly j) M)) ?_)))
 rintro _ H6 ⟨r6,F6,p7,oQ,rfl,rfl⟩;replace oQ:=HS.back qk V oQ;replace hT:=hT.mono p7;replace a8:=a8.mono p7;refine bK 1 2 19 19 [] [(19,(!(cb c)))] Hn_ K_ V fun _=>ae 1 V (dy 2 (v:=(!(cb c))) V (by rw[hv];rfl) V V (ab (aS 1 0 22 22 [] [(22,k5)] (Hr_ 0 0 Hn_) oQ V V fun _=>zc (mi.kZ ex c (HS.call oQ) M M a8 hT (fun j=>a0e (ly j) M)) ?_)))
 rintro _ H9 ⟨tK,t6,x9,xQ,yd,y9,F9,p8,n2,rfl,qj,w1,x5,x4⟩;replace n2:=HS.back oQ V n2;replace hT:=hT.mono p8;replace a8:=a8.mono p8;refine bK 5 2 24 25 [4,5,21] [(4,(sL tK x9.length t6))] Hn_ K_ V fun _=>ae 3 V ?_
 have bk:BkF c x9 _:=(by assumption:cb c=true->BkF c x9 _) hv;have Cy:=bk.lx;have r1:Lst ((x9).getD 0 v_) (LIn c 0):=bk.hx 0 M;have t4:(x9).getD 0 v_=[]:=List.eq_nil_iff_forall_not_mem.2 fun x hx=>hz x.toNat ((pt_in M _).2 ((r1.mem x).1 hx).2)
 obtain⟨wl,qp⟩:=Sv.view (SR.sv qj n2);have yg:=fL (qp 0);refine wrp 1 26 30 [] [(30,(decide ((0:Int)<((x9.getD 0 v_).length:Int))))] (Ha_ (Sv.ix (j:=0) (SR.sv qj n2)) (Hl_ 2 (ql 22 0 (vL (qp 0)) V V) Hn_)) K_ V fun _=>dy 2 (v:=(decide ((0:Int)<((x9.getD 0 v_).length:Int)))) V (by simp only[t4];rfl) V V (aC V (cN 3 32 34 [] [(32,k5),(34,c.r)] (Hr_ 0 0 (Hr_ 2 0 Hn_)) n2 V V fun _=>eU (id:= .x []) (cS false n2.log0 V V V V V V V V V V M M) V V (by rintro _ _ r3 ⟨pV,qz,rfl,ky,_,hwr⟩;exact dh V V (Wr.did hwr)) (⟨.inl V,.inl V,.inr a0g,trivial⟩) ?_))
 rintro _ tE r3 ⟨pV,qz,rfl,ky,jq,_⟩ tf qN;replace jq:=HS.lg jq n2 qN;generalize ({tE with log:=tf}:Heap)=vr at jq⊢;refine bj (v:=k5) (id:= .l b1) (gw (i:=0) V V V (HS.hc jq.log0 (i:=0) V) V V V) V V (gf V) (⟨.inr a0g,q_⟩) (aQ (W:=[]) (aP V V V) V V V (ni.ruses_c ex c (HS.call jq.log0) M M a8 hT X) (⟨.inl V,.inr ⟨trivial,trivial⟩,.inr a0g,.inr trivial,.inr a0g,trivial⟩) ?_);rintro _ tF ⟨ci,co,et,tz,ob,it,rfl,dl,wO,wL⟩;refine⟨Wr.did it.log,fun tg qO=>?_⟩;replace it:=HS.back jq.log0 V it;replace it:=HS.lg it jq qO;generalize ({tF with log:=tg}:Heap)=vv at it⊢;replace hT:=hT.mono ob;replace a8:=a8.mono ob;replace ky:=ky.mono ob;refine wfv (v:=(aG [c.m,c.r,(sL a9 c.u.length bb),(sL pV (List.replicate c.r.toNat false).length qz),N_,(sL ci et.length co)])) (ap_bld V V K_) (eU (id:= .a) (aN it.log0 V V) V V (fun _ _ _ _=>did_a V V V) (kb V) ?_);rintro _ tG _ ⟨ap,rfl,oG,_⟩ th qP;replace oG:=HS.lg oG it qP;generalize ({tG with log:=th}:Heap)=vx at oG⊢;refine fa (pT ap 0) V V V (aW 2 V ?_);have Cw:=((by assumption:cb c=true->CntF c (usedC c) et) hv).len;refine ab (zm (pT ap 0) ?_);have o1:=HS.snoc oG;let g2:Fp:=(fP b1 [c.m,c.r,(sL a9 c.u.length bb)])
 let g3:Fp:=(fP b3 [N_,N_,(iI 0)])
 refine zc (R:=fun v H'=> ∃(no:List Bool) (slA:List SpiT),∃hX hD,∃(hP:Nat),∃hY hE,∃(hQ:Nat),∃F',tz.le F'/\Hb H F' H' [g2,g3,hX,(fP ap [c.m,c.r,(sL a9 c.u.length bb),(sL hD no.length hP),(sL hE slA.length hQ),(sL ci et.length co)]),hY] R/\OZ F' hD no hP hX/\OZ F' hE slA hQ hY/\v= .tuple #[]/\(SpF c no slA)) ?_ ?_
 ·refine aB Tryz.func57 V V (am 1 V (ab (aS 4 0 6 9 [] [(9,k5)] (Hr_ 3 3 Hn_) o1 V V fun _=>zc (mj.rac_c ex c (HS.call o1) M M a8 hT (fun j=>a0e (ly j) M)) ?_)));rintro _ xB ⟨p0,qE,gt,tA,ol,o2,rfl,hC,wP,wM⟩;replace o2:=HS.back o1 V o2;replace ky:=ky.mono ol;refine za (sL p0 gt.length qE) (ae 2 V ?_);have zN:=(by assumption:cb c=true->Lst gt (acS c)) hv;have zY:=g0 zN (fun r h=>jS vF (a0d _) h);have Cu:=Lst.len zN yO.1 (fun r h=>jS vF (a0d _) h);refine wT 2 [] 1 0 [3] [(3,(iI 0))] V fun _=>aj (fun(mm:Nat) f H'=> ∃(sp:List Bool) (sl:List SpiT) (q:Nat),∃f7 bz,∃(b4:Nat),∃h1 fd,∃(f3:Nat),∃F',tA.le F'/\Hb H F' H' [g2,g3,f7,(fP ap [c.m,c.r,(sL a9 c.u.length bb),(sL bz sp.length b4),(sL fd sl.length f3),(sL ci et.length co)]),h1] R/\OZ F' bz sp b4 f7/\OZ F' fd sl f3 h1/\aA f [(0,(pT ap 0)),(2,(sL p0 gt.length qE)),(3,(q:Int))]/\mm=gt.length-q/\(sp.length=c.r.toNat)/\(sl.length<=q)/\(SpO sl)/\(q<=gt.length)) _ ⟨List.replicate c.r.toNat false,([]:List SpiT),0,r3,pV,qz,[],none,0,_,fR,o2,ky,(OS.nil:OS _ N_ ([]:List SpiT) []),f_,V,o_,o_,(fun _ h=>(by cases h)),M⟩ ?_
  rintro xd xS xC ⟨sp,sl,q,f7,bz,b4,h1,fd,f3,xt,l4,jw,f1,hJ,p9,rfl,lsp,lsl,lso,hq⟩ s6;refine au _ p9 (fun _=>?_);clear p9;replace hT:=(hT.mono ol).mono l4;replace a8:=(a8.mono ol).mono l4;replace hC:=hC.mono l4;refine am 2 V (wT 1 [] 11 14 [] [(14,(decide ((q:Int)<(gt.length:Int))))] V fun _=>zd 4 3 (fun tL=>?_) fun tL=>?_)
  ·have CF:=dm zY (k:=q) M;refine aC V ?_;obtain⟨wn,qq⟩:=Sv.view (SR.sv hC jw);have xZ:=fI (qq q);refine cN 8 18 25 [] [(21,k5),(25,(gt.getD q 0))] (Hr_ 3 3 (Ha_ (Sv.ix (j:=(q:Int)) (SR.sv hC jw)) (Hl_ 7 (ql 3 0 (hc0 (vI (qq q))) V V) Hn_))) jw V V fun _=>aQ (W:=[]) (aP V V V) V V V (fcall_c ex c (gt.getD q 0) (HS.call jw.log0) M M a8 M hT M M) (kb V) ?_
   rintro _ tH ⟨oX,oY,tB,ow,h7,rfl,wQ,wW⟩;refine⟨Wr.did h7.log,fun ti qQ=>?_⟩;replace h7:=HS.back jw.log0 V h7;replace h7:=HS.lg h7 jw qQ;generalize ({tH with log:=ti}:Heap)=vX at h7⊢;replace hC:=hC.mono ow;replace f1:=f1.mono ow;replace hJ:=hJ.mono ow;refine cN 5 27 28 [4,5,17] [(4,oX),(5,oY)] Hn_ h7 V V fun _=>aW 1 V (ab ?_)
   obtain⟨wq,qr⟩:=Sv.view (SR.sv hC h7);have x0:=fI (qr q);let r5:Value:=(aG [(gt.getD q 0),(iI 1),oX,oY,N_])
   refine bK 8 0 29 36 [] [(29,(pT ap 0)),(36,r5)] (Ha_ (Sv.ix (j:=(q:Int)) (SR.sv hC h7)) (Hl_ 4 (ql 3 0 (vI (qr q)) V V) Hn_)) K_ V fun _=>zc (R:=fun v H'=> ∃(s1:List Bool) (s2:List SpiT),∃h2 hF,∃(hR:Nat),∃h3 hG,∃(hS:Nat),∃F',tB.le F'/\Hb H F' H' [g2,g3,h2,(fP ap [c.m,c.r,(sL a9 c.u.length bb),(sL hF s1.length hR),(sL hG s2.length hS),(sL ci et.length co)]),h3] R/\OZ F' hF s1 hR h2/\OZ F' hG s2 hS h3/\v= .tuple #[]/\(s1=(sp).set ((gt.getD q 0)).toNat true)/\(s2=sl++[(⟨(gt.getD q 0),1,oX,oY,([]:List Int)⟩:SpiT)])) ?_ ?_
   ·refine aB Tryz.func59 V V (am 1 V (ab (aT (aN h7 V V) V V ?_)));rintro _ xE _ ⟨xR,rfl,oH,_⟩;refine ae 2 V (aC V (cN 7 4 10 [] [(10,(.pointer (some ⟨sB (sL bz sp.length b4),sO (sL bz sp.length b4)+(gt.getD q 0).toNat *Rp.sz Bool,none⟩)))] (Hr_ 3 3 (Hr_ 5 5 (Ha_ (Sv.ix (j:=(gt.getD q 0)) (OS.sv f1 oH (i:=2) V)) Hn_))) oH V V fun _=>gc (id:= .x (f7.map Prod.fst)) (bW (α:=Bool) (j:=(gt.getD q 0).toNat) (off:=0) (q:=2) true f1 oH.log0 V V V V V V V V (aO (x:=false) M) V (by rintro cs rfl;exact⟨a08 V,V⟩)) V (by rintro _ _ r4 ⟨o0,_,hwr⟩;exact dh V V (Wr.did hwr)) (kb V) ?_));rintro _ tI r4 ⟨o0,nx,_⟩ tj qR;replace nx:=HS.lg nx oH qR;generalize ({tI with log:=tj}:Heap)=vY at nx⊢;have uJ:=OS.len' o0;refine aW 1 V (aC V (cN 6 11 16 [] [(11,(pT ap 0)),(15,(sL fd sl.length f3)),(16,r5)] (Hr_ 4 3 (Hr_ 5 5 Hn_)) nx V V fun _=>zld ([(⟨(gt.getD q 0),1,oX,oY,([]:List Int)⟩:SpiT)]:List SpiT) nx V (RL.cs ⟨none,0,V,M,M,M,M,SR.nil⟩ RL.nl) V fun xO yb ye vZ sQ qm=>zad 4 hJ qm (OS.sv sQ qm (i:=6) V) V V V M (kb V) fun tJ t5 t7 v0 sR sX=>sdo 3 19 20 [] [] (Hr_ 10 3 Hn_) sX V V fun wK xF sY=>?_));refine aW 0 V (aM ⟨.inl V,_,V,sp.set (gt.getD q 0).toNat true,sl++([(⟨(gt.getD q 0),1,oX,oY,([]:List Int)⟩:SpiT)]:List SpiT),r4,bz,b4,t7,tJ,t5,_,fR,(by(simpa only[a0f] using(HS.sub sY (a01 _ _)))),(OS.norm o0),sR,V,m_,m_⟩)
   rintro _ xD ⟨s1,s2,h2,hF,hR,h3,hG,hS,xu,sN,sW,oV,oW,rfl,ki,k3⟩;refine ae 2 V (wU 1 [] 15 16 [3] [(3,(iI ((q:Int)+1)))] (vi (n:=(q:Int)+1)) V fun _=>?_);refine s6 _ _ _ ?_ ⟨s1,s2,q+1,h2,hF,hR,h3,hG,hS,_,(fT (fT (l4) ow) sN),sW,oV,oW,f_,V,(by rw[ki,a0f];exact lsp),(by rw[k3,a02,a0j];omega),(by rw[k3];exact spo_snoc lso (a0r _)),M⟩;omega
  refine aM ⟨.inl V,_,V,sp,sl,f7,bz,b4,h1,fd,f3,_,(fT (ol) l4),jw,f1,hJ,V,(spf_0 lsp lsl M lso)⟩
 rintro _ xA ⟨no,slA,hX,hD,hP,hY,hE,hQ,rW,oc,sV,oT,oU,rfl,hsp⟩;replace hT:=hT.mono oc;replace a8:=a8.mono oc;replace dl:=dl.mono oc;refine ae 2 V (ab (zm (pT ap 0) (zc (R:=fun v H'=> ∃(o7:List Bool) (nd:List SpiT),∃h4 hH,∃(hV:Nat),∃h5 hI,∃(hW:Nat),∃F',rW.le F'/\Hb H F' H' [g2,g3,h4,(fP ap [c.m,c.r,(sL a9 c.u.length bb),(sL hH o7.length hV),(sL hI nd.length hW),(sL ci et.length co)]),h5] R/\OZ F' hH o7 hV h4/\OZ F' hI nd hW h5/\v= .tuple #[]/\(SpF c o7 nd)) ?_ ?_)))
 ·refine aB Tryz.func58 V V (am 1 V (wT 2 [] 1 0 [2] [(2,(iI 0))] V fun _=>aj (fun(mm:Nat) f H'=> ∃(sp:List Bool) (sl:List SpiT) (b:Nat),∃f8 fi,∃(f4:Nat),∃f9 fj,∃(f5:Nat),∃F',rW.le F'/\Hb H F' H' [g2,g3,f8,(fP ap [c.m,c.r,(sL a9 c.u.length bb),(sL fi sp.length f4),(sL fj sl.length f5),(sL ci et.length co)]),f9] R/\OZ F' fi sp f4 f8/\OZ F' fj sl f5 f9/\aA f [(0,(pT ap 0)),(2,(b:Int))]/\mm=c.u.length-b/\(SpF c sp sl)/\(b<=c.u.length)) _ ⟨no,slA,0,hX,hD,hP,hY,hE,hQ,_,fR,sV,oT,oU,f_,V,X,M⟩ ?_));rintro xe xT xH ⟨sp,sl,b,f8,fi,f4,f9,fj,f5,xw,l9,n1,hK,hL,qa,rfl,tU,hb⟩ s7;refine au _ qa (fun _=>?_);clear qa;replace hT:=hT.mono l9;replace a8:=a8.mono l9;replace dl:=dl.mono l9;refine am 2 V (aU 1 8 15 [] [(15,(decide ((b:Int)<(c.u.length:Int))))] (Hr_ 5 3 Hn_) n1 V V fun _=>zd 4 3 (fun tM=>?_) fun tM=>?_)
  ·have zO:b<c.u.length:=M
   have Cv:=ly b;refine ab (aS 5 0 18 22 [] [(21,k5),(22,(b:Int))] (Hr_ 3 3 Hn_) n1 V V fun _=>zc (mj.rlp_c ex c (b:Int) (HS.call n1) M M a8 M hT (fun j=>a0e (ly j) M)) ?_);rintro _ xI ⟨n5,oJ,an,tC,mk,o4,rfl,c6,wS,wN⟩;replace o4:=HS.back n1 V o4;replace hK:=hK.mono mk;replace hL:=hL.mono mk;refine za (sL n5 an.length oJ) (ae 2 V ?_);have pf:PtF c b an:=(by assumption:cb c=true->0<=((b:Nat):Int)->((b:Nat):Int)<(c.u.length:Int)->PtF c ((b:Nat):Int).toNat an) hv M M;have CA:(an).length=(c.u.getD b v_).v.length+1:=pf.len;refine wT 2 [] 1 0 [4] [(4,(iI 0))] V fun _=>aj (fun(mm:Nat) f H'=> ∃(ik:List Bool) (k4:List SpiT) (k:Nat),∃b6 c7,∃(c9:Nat),∃b7 c8,∃(dd:Nat),∃F',tC.le F'/\Hb H F' H' [g2,g3,b6,(fP ap [c.m,c.r,(sL a9 c.u.length bb),(sL c7 ik.length c9),(sL c8 k4.length dd),(sL ci et.length co)]),b7] R/\OZ F' c7 ik c9 b6/\OZ F' c8 k4 dd b7/\aA f [(0,(pT ap 0)),(2,(b:Int)),(3,(sL n5 an.length oJ)),(4,(k:Int))]/\mm=(an).length-k/\(SpF c ik k4)/\(k<=(an).length)) _ ⟨sp,sl,0,f8,fi,f4,f9,fj,f5,_,fR,o4,hK,hL,f_,V,M,M⟩ ?_
   rintro xf xU xJ ⟨ik,k4,k,b6,c7,c9,b7,c8,dd,rX,mx,oI,bl,hM,qb,rfl,tV,hk⟩ s8;refine au _ qb (fun _=>?_);clear qb;replace hT:=(hT.mono mk).mono mx;replace c6:=c6.mono mx;replace dl:=(dl.mono mk).mono mx;have x6:=tV.len;refine am 2 V (wT 1 [] 24 27 [] [(27,(decide ((k:Int)<(an.length:Int))))] V fun _=>zd 4 5 (fun tN=>?_) fun tN=>?_)
   ·have yV:Lst ((an).getD k v_) (ptS c b k):=pf.pt k (show k<=(c.u.getD b v_).v.length by omega);have ya:=Lst.len yV yO.1 (fun r h=>iH vF zO h);have wf:=g0 yV (fun r h=>iH vF zO h);refine ab ?_;obtain⟨n6,qs⟩:=Sv.view (SR.sv c6 oI);have n4:=fL (qs k);let r7:Fp:=(fP ap [c.m,c.r,(sL a9 c.u.length bb),(sL c7 ik.length c9),(sL c8 k4.length dd),(sL ci et.length co)])
    refine bK 5 0 30 34 [] [(30,(pT ap 0)),(34,(sL (cA (n6 k) 0) (an.getD k v_).length (cK (n6 k) 0)))] (Ha_ (Sv.ix (j:=(k:Int)) (SR.sv c6 oI)) (Hl_ 4 (ql 22 0 (vL (qs k)) V V) Hn_)) K_ V fun _=>zc (R:=fun v H'=> ∃(ur:List Int),∃e5,∃(e6:Nat),∃F',rX.le F'/\Hb H F' H' [g2,g3,b6,r7,b7] R/\Sr F' e5 ur e6/\v=(sL e5 ur.length e6)/\(ur=uns (ik) ((an.getD k v_)))) ?_ ?_
    ·have zS:(ik).length=c.r.toNat:=M
     refine aB Tryz.func106 V V (am 1 V (wT 2 [] 4 4 [] [(4,N_)] V fun _=>wT 3 [] 1 0 [5] [(5,N_)] V fun _=>wT 2 [] 1 0 [6] [(6,(iI 0))] V fun _=>?_));have s0:=HS.snoc oI;refine aj (fun(mm:Nat) f H'=> ∃(uo:List Int) (uj:Nat),∃hA,∃(hB:Nat),∃kp F',rX.le F'/\Hb H F' H' [g2,g3,b6,r7,b7,kp] R/\OZ F' hA uo hB kp/\aA f [(0,(pT ap 0)),(1,(sL (cA (n6 k) 0) (an.getD k v_).length (cK (n6 k) 0))),(5,(sL hA uo.length hB)),(6,(uj:Int))]/\mm=((an.getD k v_)).length-uj/\(uo=uns (ik) (((an.getD k v_)).take uj))/\(uj<=((an.getD k v_)).length)) _ ⟨([]:List Int),0,none,0,[],_,fR,s0,(OS.nil:OS _ N_ ([]:List Int) []),f_,V,m_,M⟩ ?_;rintro xg xV xL ⟨uo,uj,hA,hB,kp,xx,mI,h8,n3,qc,rfl,hu,huj⟩ qx;refine au _ qc (fun _=>?_);clear qc;replace bl:=bl.mono mI;replace n4:=n4.mono mI;have z2:uo.length<=uj:=by rw[hu];exact a0e uns_len p_
     refine am 2 V (wT 1 [] 7 10 [] [(10,(decide ((uj:Int)<((an.getD k v_).length:Int))))] V fun _=>zd 4 5 (fun tO=>?_) fun tO=>?_)
     ·have z3:=dm wf (k:=uj) M;obtain⟨ws,qt⟩:=Sv.view (SR.sv n4 h8);have x1:=fI (qt uj);obtain⟨wt,s5⟩:=Sv.view (OS.sv bl h8 (i:=2) V);refine sdr0 1 13 23 [] [(23,(!(ik.getD ((an.getD k v_).getD uj 0).toNat false)))] (Hr_ 3 3 (Ha_ (Sv.ix (j:=(uj:Int)) (SR.sv n4 h8)) (Hl_ 7 (ql 3 0 (hc0 (vI (qt uj))) V V) (Ha_ (Sv.ix (j:=((an.getD k v_).getD uj 0)) (OS.sv bl h8 (i:=2) V)) (Hl_ 9 (ql 4 0 (hc0 (vB (s5 ((an.getD k v_).getD uj 0).toNat))) V V) Hn_))))) h8 V V V fun _=>zI 0 2 (fun tP=>?_) fun tP=>?_
      ·refine ab ?_;obtain⟨wu,qu⟩:=Sv.view (SR.sv n4 h8);have x2:=fI (qu uj);refine bK 5 0 24 28 [] [(24,(sL hA uo.length hB)),(28,((an.getD k v_).getD uj 0))] (Ha_ (Sv.ix (j:=(uj:Int)) (SR.sv n4 h8)) (Hl_ 4 (ql 3 0 (vI (qu uj)) V V) Hn_)) K_ V fun _=>zlo [((an.getD k v_).getD uj 0)] h8 V (RL.cs ⟨V,M⟩ RL.nl) V fun xP yc yf xM sS qo=>zao 5 n3 qo (OS.sv sS qo (i:=6) V) V V V M fun r0 r2 t8 xN sT s3=>za (sL r0 (uo++[((an.getD k v_).getD uj 0)]).length r2) (ae 2 V (wU 1 [] 11 12 [6] [(6,(iI ((uj:Int)+1)))] (vi (n:=(uj:Int)+1)) V fun _=>?_))
       refine qx _ _ _ ?_ ⟨uo++[((an.getD k v_).getD uj 0)],uj+1,r0,r2,t8,_,(mI),(HS.sub s3 (a01 _ _)),sT,f_,V,((j7 M hu).1 X),M⟩;omega
      refine wU 1 [] 11 12 [6] [(6,(iI ((uj:Int)+1)))] (vi (n:=(uj:Int)+1)) V fun _=>?_
      refine qx _ _ _ ?_ ⟨uo,uj+1,hA,hB,kp,_,(mI),h8,n3,f_,V,((j7 M hu).2 n_),M⟩;omega
     refine wT 1 [] 4 4 [31] [(4,(sL hA uo.length hB))] V fun _=>?_
     obtain⟨xy,sP,s4,sU,wZ⟩:=OS.frz n3 h8 (i:=5) V;refine ak ⟨.inr V,_,V,uo,hA,hB,_,(fT (mI) sP),(HS.sub s4 (a01 _ _)),sU,V,(by rw[a0h M]at hu;exact hu)⟩
    rintro _ xK ⟨ur,e5,e6,tD,kx,sZ,oR,rfl,hur⟩;replace bl:=bl.mono kx;replace hM:=hM.mono kx;refine za (sL e5 ur.length e6) (ae 2 V (aj (fun(mm:Nat) f H'=> ∃(il:List Bool) (kr:List SpiT) (hw:List Int),∃iv,∃(i1:Nat),∃go b2,∃(b5:Nat),∃h6 f0,∃(f6:Nat),∃F',tD.le F'/\Hb H F' H' [g2,g3,go,(fP ap [c.m,c.r,(sL a9 c.u.length bb),(sL b2 il.length b5),(sL f0 kr.length f6),(sL ci et.length co)]),h6] R/\Sr F' iv hw i1/\OZ F' b2 il b5 go/\OZ F' f0 kr f6 h6/\aA f [(0,(pT ap 0)),(2,(b:Int)),(3,(sL n5 an.length oJ)),(4,(k:Int)),(5,(sL iv hw.length i1))]/\mm=hw.length/\(SpF c il kr)/\(hw=uns il ((an).getD k v_))) _ ⟨ik,k4,ur,e5,e6,b6,c7,c9,b7,c8,dd,_,fR,sZ,oR,bl,hM,f_,V,X,(hur)⟩ ?_));rintro xh xX rY ⟨il,kr,hw,iv,i1,go,b2,b5,h6,f0,f6,xz,m0,g4,ds,f2,hO,qd,rfl,p6,hhw⟩ s9;refine au _ qd (fun _=>?_);clear qd;replace hT:=(hT.mono kx).mono m0;replace c6:=(c6.mono kx).mono m0;replace dl:=(dl.mono kx).mono m0;have x7:=p6.len;have x8:=p6.small vF;have zZ:hw.length<=3000:=by rw[hhw];exact a0e uns_len M
    have yh: ∀x∈hw,0<=x/\x<c.r:=by rw[hhw];exact mem_mono wf fun x hx=>(uns_mem hx).1
    have z0: ∀x∈hw,il.getD x.toNat false=false:=by rw[hhw];exact fun x hx=>(uns_mem hx).2
    refine am 2 V (wT 1 [] 36 38 [] [(38,(decide ((5:Int)<(hw.length:Int))))] V fun _=>zd 4 5 (fun tR=>?_) fun tR=>?_)
    ·have r1:=dm yh (k:=0) M;obtain⟨wv,qv⟩:=Sv.view (SR.sv ds g4);have x3:=fI (qv 0);refine wrp 3 45 47 [6] [(6,(hw.getD 0 0))] (Ha_ (Sv.ix (j:=0) (SR.sv ds g4)) (Hl_ 2 (ql 3 0 (vI (qv 0)) V V) Hn_)) K_ V fun _=>wT 2 [] 1 0 [7] [(7,(iI 1))] V fun _=>aj (fun(mm:Nat) f H'=> ∃(rz:Int) (p:Nat),H'=rY/\aA f [(0,(pT ap 0)),(2,(b:Int)),(3,(sL n5 an.length oJ)),(4,(k:Int)),(5,(sL iv hw.length i1)),(6,rz),(7,(p:Int))]/\mm=hw.length-p/\(rz∈hw)/\(p<=hw.length)) _ ⟨(hw.getD 0 0),1,V,f_,V,(jJ M),M⟩ ?_
     rintro xi xY rY ⟨rz,p,rfl,qe,rfl,hrz,hp⟩ qy;refine au _ qe (fun _=>?_);clear qe;have zQ:=yh rz hrz;refine am 2 V (wT 1 [] 48 51 [] [(51,(decide ((p:Int)<(hw.length:Int))))] V fun _=>zd 4 4 (fun tS=>?_) fun tS=>?_)
     ·have CE:=dm yh (k:=p) M;obtain⟨ww,qw⟩:=Sv.view (SR.sv ds g4);have wD:=fI (qw p);obtain⟨ui,l2⟩:=Sv.view (SR.sv dl g4);have wE:=fI (l2 (hw.getD p 0).toNat);have wF:=fI (l2 rz.toNat);refine sdr0 1 54 71 [] [(71,(decide ((et.getD (hw.getD p 0).toNat 0)<=(et.getD rz.toNat 0))))] (Hr_ 3 3 (Ha_ (Sv.ix (j:=(p:Int)) (SR.sv ds g4)) (Hl_ 7 (ql 3 0 (hc0 (vI (qw p))) V V) (Ha_ (Sv.ix (j:=(hw.getD p 0)) (SR.sv dl g4)) (Hl_ 9 (ql 3 0 (hc0 (vI (l2 (hw.getD p 0).toNat))) V V) (Hr_ 13 3 (Ha_ (Sv.ix (j:=rz) (SR.sv dl g4)) (Hl_ 16 (ql 3 0 (hc0 (vI (l2 rz.toNat))) V V) Hn_)))))))) g4 V V V fun _=>zd 0 2 (fun sw=>?_) fun sw=>?_
      ·obtain⟨uk,pE⟩:=Sv.view (SR.sv ds g4);have wG:=fI (pE p);refine wrp 2 72 75 [6] [(6,(hw.getD p 0))] (Ha_ (Sv.ix (j:=(p:Int)) (SR.sv ds g4)) (Hl_ 3 (ql 3 0 (vI (pE p)) V V) Hn_)) K_ V fun _=>wU 1 [] 52 53 [7] [(7,(iI ((p:Int)+1)))] (vi (n:=(p:Int)+1)) V fun _=>?_
       refine qy _ _ _ ?_ ⟨(hw.getD p 0),p+1,V,f_,V,(jJ M),M⟩;omega
      refine wU 1 [] 52 53 [7] [(7,(iI ((p:Int)+1)))] (vi (n:=(p:Int)+1)) V fun _=>?_
      refine qy _ _ _ ?_ ⟨rz,p+1,V,f_,V,M,M⟩;omega
     have zQ:=yh rz hrz;refine ab (wTo 6 0 [] 76 81 [] [(76,(pT ap 0)),(77,rz),(78,(b:Int)),(79,(k:Int)),(80,(sL iv hw.length i1)),(81,rz)] V fun _=>zlo [rz] g4 V (RL.cs ⟨V,M⟩ RL.nl) V fun v1 w6 xj u9 qS re=>?_);obtain⟨uX,i4,pq,q5,uK⟩:=OS.frz qS re (i:=5) V;replace hT:=hT.mono i4;replace ds:=ds.mono i4;refine zc (ma.minus_c ex hw [rz] (HS.call pq) ds q5 hT (by(simp only[a0j];omega))) ?_;rintro _ va ⟨o9,pP,xq,xk,uY,k8,oE,rfl,qi,rfl⟩;replace oE:=HS.back pq V oE;let r8:Value:=(aG [rz,(iI 2),(b:Int),(k:Int),(sL o9 (gN hw [rz]).length pP)])
     refine wTo 1 8 [] 84 84 [] [(84,r8)] V fun _=>?_
     obtain⟨sa,k9,rf,q6,uL⟩:=OS.frz qi oE (i:=6) V;replace c6:=((c6.mono i4).mono k8).mono k9;replace f2:=((f2.mono i4).mono k8).mono k9;replace hO:=((hO.mono i4).mono k8).mono k9;refine zc (R:=fun v H'=> ∃(s1:List Bool) (s2:List SpiT),∃cc dv,∃(d2:Nat),∃ch d1,∃(em:Nat),∃F',sa.le F'/\Hb H F' H' [g2,g3,cc,(fP ap [c.m,c.r,(sL a9 c.u.length bb),(sL dv s1.length d2),(sL d1 s2.length em),(sL ci et.length co)]),ch,[],[]] R/\OZ F' dv s1 d2 cc/\OZ F' d1 s2 em ch/\v= .tuple #[]/\(s1=(il).set (rz).toNat true)/\(s2=kr++[(⟨rz,2,(b:Int),(k:Int),gN hw [rz]⟩:SpiT)])) ?_ ?_
     ·refine aB Tryz.func59 V V (am 1 V (ab (aT (aN rf V V) V V ?_)));rintro _ vc _ ⟨wg,rfl,lr,_⟩;refine ae 2 V (aC V (cN 7 4 10 [] [(10,(.pointer (some ⟨sB (sL b2 il.length b5),sO (sL b2 il.length b5)+rz.toNat *Rp.sz Bool,none⟩)))] (Hr_ 3 3 (Hr_ 5 7 (Ha_ (Sv.ix (j:=rz) (OS.sv f2 lr (i:=2) V)) Hn_))) lr V V fun _=>gc (id:= .x (go.map Prod.fst)) (bW (α:=Bool) (j:=rz.toNat) (off:=0) (q:=2) true f2 lr.log0 V V V V V V V V (aO (x:=false) M) V (by rintro cs rfl;exact⟨a08 V,V⟩)) V (by rintro _ _ qH ⟨ox,_,hwr⟩;exact dh V V (Wr.did hwr)) (kb V) ?_));rintro _ sg qH ⟨ox,kk,_⟩ rS qf;replace kk:=HS.lg kk lr qf;generalize ({sg with log:=rS}:Heap)=t9 at kk⊢;have tW:=OS.len' ox;refine aW 1 V (aC V (cN 6 11 16 [] [(11,(pT ap 0)),(15,(sL f0 kr.length f6)),(16,r8)] (Hr_ 4 3 (Hr_ 5 7 Hn_)) kk V V fun _=>zld ([(⟨rz,2,(b:Int),(k:Int),gN hw [rz]⟩:SpiT)]:List SpiT) kk V (RL.cs ⟨o9,pP,V,M,M,M,M,q6⟩ RL.nl) V fun v3 w7 xl ua qT pu=>zad 4 hO pu (OS.sv qT pu (i:=8) V) V V V M (kb V) fun sq tc tl ub qU rg=>sdo 3 19 20 [] [] (Hr_ 10 3 Hn_) rg V V fun uz vd rh=>?_));refine aW 0 V (aM ⟨.inl V,_,V,il.set rz.toNat true,kr++([(⟨rz,2,(b:Int),(k:Int),gN hw [rz]⟩:SpiT)]:List SpiT),qH,b2,b5,tl,sq,tc,_,fR,(by(simpa only[a0f] using(HS.sub rh (a01 _ _)))),(OS.norm ox),qU,V,m_,m_⟩)
     rintro _ vb ⟨s1,s2,cc,dv,d2,ch,d1,em,pR,pc,oF,bt,ii,rfl,ki,k3⟩;replace c6:=c6.mono pc;refine ae 2 V (ab ?_);obtain⟨k7,pF⟩:=Sv.view (SR.sv c6 oF);have k0:=fL (pF k);let r9:Fp:=(fP ap [c.m,c.r,(sL a9 c.u.length bb),(sL dv s1.length d2),(sL d1 s2.length em),(sL ci et.length co)])
     refine bK 5 0 39 43 [] [(39,(pT ap 0)),(43,(sL (cA (k7 k) 0) (an.getD k v_).length (cK (k7 k) 0)))] (Ha_ (Sv.ix (j:=(k:Int)) (SR.sv c6 oF)) (Hl_ 4 (ql 22 0 (vL (pF k)) V V) Hn_)) K_ V fun _=>zc (R:=fun v H'=> ∃(ur:List Int),∃dn,∃(dt:Nat),∃F',pR.le F'/\Hb H F' H' [g2,g3,cc,r9,ch,[],[]] R/\Sr F' dn ur dt/\v=(sL dn ur.length dt)/\(ur=uns (s1) ((an.getD k v_)))) ?_ ?_
     ·have zS:(s1).length=c.r.toNat:=by(rw[ki,a0f];omega)
      refine aB Tryz.func106 V V (am 1 V (wT 2 [] 4 4 [] [(4,N_)] V fun _=>wT 3 [] 1 0 [5] [(5,N_)] V fun _=>wT 2 [] 1 0 [6] [(6,(iI 0))] V fun _=>?_));have rj:=HS.snoc oF;refine aj (fun(mm:Nat) f H'=> ∃(uo:List Int) (uj:Nat),∃e0,∃(e1:Nat),∃i5 F',pR.le F'/\Hb H F' H' [g2,g3,cc,r9,ch,[],[],i5] R/\OZ F' e0 uo e1 i5/\aA f [(0,(pT ap 0)),(1,(sL (cA (k7 k) 0) (an.getD k v_).length (cK (k7 k) 0))),(5,(sL e0 uo.length e1)),(6,(uj:Int))]/\mm=((an.getD k v_)).length-uj/\(uo=uns (s1) (((an.getD k v_)).take uj))/\(uj<=((an.getD k v_)).length)) _ ⟨([]:List Int),0,none,0,[],_,fR,rj,(OS.nil:OS _ N_ ([]:List Int) []),f_,V,m_,M⟩ ?_;rintro uR wx vg ⟨uo,uj,e0,e1,i5,u0,ka,e3,kz,pg,rfl,hu,huj⟩ pM;refine au _ pg (fun _=>?_);clear pg;replace bt:=bt.mono ka;replace k0:=k0.mono ka;have z2:uo.length<=uj:=by rw[hu];exact a0e uns_len p_
      refine am 2 V (wT 1 [] 7 10 [] [(10,(decide ((uj:Int)<((an.getD k v_).length:Int))))] V fun _=>zd 4 5 (fun sx=>?_) fun sx=>?_)
      ·have z3:=dm wf (k:=uj) M;obtain⟨ul,pG⟩:=Sv.view (SR.sv k0 e3);have wH:=fI (pG uj);obtain⟨um,rK⟩:=Sv.view (OS.sv bt e3 (i:=2) V);refine sdr0 1 13 23 [] [(23,(!(s1.getD ((an.getD k v_).getD uj 0).toNat false)))] (Hr_ 3 3 (Ha_ (Sv.ix (j:=(uj:Int)) (SR.sv k0 e3)) (Hl_ 7 (ql 3 0 (hc0 (vI (pG uj))) V V) (Ha_ (Sv.ix (j:=((an.getD k v_).getD uj 0)) (OS.sv bt e3 (i:=2) V)) (Hl_ 9 (ql 4 0 (hc0 (vB (rK ((an.getD k v_).getD uj 0).toNat))) V V) Hn_))))) e3 V V V fun _=>zI 0 2 (fun sy=>?_) fun sy=>?_
       ·refine ab ?_;obtain⟨un,pH⟩:=Sv.view (SR.sv k0 e3);have wI:=fI (pH uj);refine bK 5 0 24 28 [] [(24,(sL e0 uo.length e1)),(28,((an.getD k v_).getD uj 0))] (Ha_ (Sv.ix (j:=(uj:Int)) (SR.sv k0 e3)) (Hl_ 4 (ql 3 0 (vI (pH uj)) V V) Hn_)) K_ V fun _=>zlo [((an.getD k v_).getD uj 0)] e3 V (RL.cs ⟨V,M⟩ RL.nl) V fun v9 w8 xm vh qV pw=>zao 7 kz pw (OS.sv qV pw (i:=8) V) V V V M fun pW qA tn vj qW rk=>za (sL pW (uo++[((an.getD k v_).getD uj 0)]).length qA) (ae 2 V (wU 1 [] 11 12 [6] [(6,(iI ((uj:Int)+1)))] (vi (n:=(uj:Int)+1)) V fun _=>?_))
        refine pM _ _ _ ?_ ⟨uo++[((an.getD k v_).getD uj 0)],uj+1,pW,qA,tn,_,(ka),(HS.sub rk (a01 _ _)),qW,f_,V,((j7 M hu).1 X),M⟩;omega
       refine wU 1 [] 11 12 [6] [(6,(iI ((uj:Int)+1)))] (vi (n:=(uj:Int)+1)) V fun _=>?_
       refine pM _ _ _ ?_ ⟨uo,uj+1,e0,e1,i5,_,(ka),e3,kz,f_,V,((j7 M hu).2 n_),M⟩;omega
      refine wT 1 [] 4 4 [31] [(4,(sL e0 uo.length e1))] V fun _=>?_
      obtain⟨u1,qM,rl,q7,uM⟩:=OS.frz kz e3 (i:=7) V;refine ak ⟨.inr V,_,V,uo,e0,e1,_,(fT (ka) qM),(HS.sub rl (a01 _ _)),q7,V,(by rw[a0h M]at hu;exact hu)⟩
     rintro _ vf ⟨ur,dn,dt,uZ,n7,ri,oK,rfl,hur⟩;replace bt:=bt.mono n7;replace ii:=ii.mono n7;refine za (sL dn ur.length dt) (ae 1 V ?_);refine s9 _ _ _ ?_ ⟨s1,s2,ur,dn,dt,cc,dv,d2,ch,d1,em,_,(fT (fT (fT (fT (fT (m0) i4) k8) k9) pc) n7),(HS.sub ri (a01 _ _)),oK,bt,ii,f_,V,(by rw[ki,k3];exact p6.set M (z0 _ hrz) (a0e (a16 _ _) zZ)),(hur)⟩;rw[hur,ki,hhw];exact uns_lt2 (hhw▸hrz) M
    refine wU 1 [] 28 29 [4] [(4,(iI ((k:Int)+1)))] (vi (n:=(k:Int)+1)) V fun _=>?_
    refine s8 _ _ _ ?_ ⟨il,kr,k+1,go,b2,b5,h6,f0,f6,_,(fT (fT (mx) kx) m0),g4,f2,hO,f_,V,M,M⟩;omega
   refine wU 1 [] 16 17 [2] [(2,(iI ((b:Int)+1)))] (vi (n:=(b:Int)+1)) V fun _=>?_
   refine s7 _ _ _ ?_ ⟨ik,k4,b+1,b6,c7,c9,b7,c8,dd,_,(fT (fT (l9) mk) mx),oI,bl,hM,f_,V,M,M⟩;omega
  refine aM ⟨.inl V,_,V,sp,sl,f8,fi,f4,f9,fj,f5,_,(l9),n1,hK,hL,V,(tU)⟩
 rintro _ xG ⟨o7,nd,h4,hH,hV,h5,hI,hW,xv,oZ,o3,i2,i3,rfl,hsB⟩;replace hT:=hT.mono oZ;replace a8:=a8.mono oZ;refine ae 2 V (ab (aS 1 0 44 44 [] [(44,k5)] (Hr_ 0 0 Hn_) o3 V V fun _=>zc (ni.nA ex c (HS.call o3) M M a8 hT X) ?_));rintro _ vk ⟨k6,l3,a7,sb,oa,lv,rfl,e4,uI,uH⟩;replace lv:=HS.back o3 V lv;replace i2:=i2.mono oa;replace i3:=i3.mono oa;refine za (sL k6 a7.length l3) (ae 2 V ?_);have zP:=(by assumption:cb c=true->InF c a7) hv;have Cx:=zP.len;refine ab (aS 2 0 46 47 [] [(47,c.r)] (Hr_ 1 0 Hn_) lv V V fun _=>aT (cS (v_:LocT) lv V V V V V V V V V ⟨V,by decide⟩ M M) V V ?_);rintro _ vm tq ⟨pX,qB,rfl,qX,rm,_⟩;refine bK 1 3 49 49 [] [(49,(aG [(sL pX (List.replicate c.r.toNat (v_:LocT)).length qB),N_,(iI 0)]))] Hn_ K_ V fun _=>zn rm V fun jb vn rn=>sgo 1 5 1 0 [] [] (Hr_ 5 6 Hn_) rn V V fun uA vo px=>ae 2 V (ab (aS 2 0 50 51 [] [(51,c.r)] (Hr_ 1 0 Hn_) px V V fun _=>?_))
 refine aT (cS false px V V V V V V V V V V M M) V V ?_;rintro _ vs ts ⟨pY,qC,rfl,qY,rp,_⟩;refine za (sL pY (List.replicate c.r.toNat false).length qC) (ae 3 V (wT 2 [] 1 0 [10] [(10,(iI 0))] V fun _=>aj (fun(mm:Nat) f H'=> ∃(sp:List Bool) (sl:List SpiT) (ll:List LocT) (hd:List Bool) (r:Nat),∃aa,∃(ag:Nat),∃b8 aw E,∃(U:Nat),∃a5 aq,∃(ar:Nat),∃ay a_,∃(Z:Nat),∃F',sb.le F'/\Hb H F' H' [g2,g3,aw,(fP ap [c.m,c.r,(sL a9 c.u.length bb),(sL E sp.length U),(sL aq sl.length ar),(sL ci et.length co)]),a5,ay,(fP jb [(sL a_ ll.length Z),N_,(iI 0)]),b8] R/\OZ F' aa hd ag b8/\OZ F' E sp U aw/\OZ F' aq sl ar a5/\OZ F' a_ ll Z ay/\aA f [(1,(pT b1 0)),(2,(pT b3 0)),(6,(pT ap 0)),(7,(sL k6 a7.length l3)),(8,(pT jb 0)),(9,(sL aa hd.length ag)),(10,(r:Int))]/\mm=c.r.toNat-r/\(SpF c sp sl)/\(ll.length=c.r.toNat)/\(hd.length=c.r.toNat)/\(r<=c.r.toNat)) _ ⟨o7,nd,List.replicate c.r.toNat (v_:LocT),List.replicate c.r.toNat false,0,pY,qC,ts,h4,hH,hV,h5,hI,hW,tq,pX,qB,_,fR,rp,qY,i2,i3,qX,f_,V,X,o_,o_,M⟩ ?_));rintro uT wy vt ⟨sp,sl,ll,hd,r,aa,ag,b8,aw,E,U,a5,aq,ar,ay,a_,Z,pS,h9,ih,av,A,N,T,ph,rfl,nm,hll,hhd,hr⟩ ko;refine au _ ph (fun _=>?_);clear ph;replace e4:=e4.mono h9;have w2:=nm.len;have w5:=nm.small vF;refine am 2 V (aU 1 53 56 [] [(56,(decide ((r:Int)<c.r)))] (Hr_ 2 0 Hn_) ih V V fun _=>zd 5 5 (fun sC=>?_) fun sC=>?_)
 ·have yP:Lst ((a7).getD r v_) (Sy (lW c) r):=zP.row r M;have CC:=Lst.len yP yO.1 (fun y h=>(jC vF h));have z1:=g0 yP (fun y h=>(jC vF h));obtain⟨up,rL⟩:=Sv.view (OS.sv A ih (i:=2) V);refine aU 1 59 65 [] [(65,(sp.getD r false))] (Hr_ 3 3 (Ha_ (Sv.ix (j:=(r:Int)) (OS.sv A ih (i:=2) V)) (Hl_ 6 (ql 4 0 (vB (rL r)) V V) Hn_))) ih V V fun _=>zI 3 2 (fun p5=>?_) fun p5=>?_
  ·refine wU 1 [] 57 58 [10] [(10,(iI ((r:Int)+1)))] (vi (n:=(r:Int)+1)) V fun _=>?_
   refine ko _ _ _ ?_ ⟨sp,sl,ll,hd,r+1,aa,ag,b8,aw,E,U,a5,aq,ar,ay,a_,Z,_,(h9),ih,av,A,N,T,f_,V,M,(hll),(hhd),M⟩;omega
  have zR:=p5;refine wT 3 [] 1 0 [11] [(11,N_)] V fun _=>wT 2 [] 1 0 [12] [(12,(iI 0))] V fun _=>?_
  have rq:=HS.snoc ih;let o8:Fp:=(fP jb [(sL a_ ll.length Z),N_,(iI 0)])
  refine aj (fun(mm:Nat) f H'=> ∃(wh:List Int) (m:Nat),∃a1,∃(a2:Nat),∃j2 F',pS.le F'/\Hb H F' H' [g2,g3,aw,(fP ap [c.m,c.r,(sL a9 c.u.length bb),(sL E sp.length U),(sL aq sl.length ar),(sL ci et.length co)]),a5,ay,o8,b8,j2] R/\OZ F' a1 wh a2 j2/\aA f [(1,(pT b1 0)),(2,(pT b3 0)),(6,(pT ap 0)),(7,(sL k6 a7.length l3)),(8,(pT jb 0)),(9,(sL aa hd.length ag)),(10,(r:Int)),(11,(sL a1 wh.length a2)),(12,(m:Int))]/\mm=5-m/\(m<=5)/\(wh.length<=m)) _ ⟨([]:List Int),0,none,0,[],_,fR,rq,(OS.nil:OS _ N_ ([]:List Int) []),f_,V,M,(a0d 0)⟩ ?_;rintro uU wA pU ⟨wh,m,a1,a2,j2,sc,e2,ax,j1,pi,rfl,hm,hwh⟩ rR;refine au _ pi (fun _=>?_);clear pi;replace e4:=e4.mono e2;replace av:=av.mono e2;replace A:=A.mono e2;replace N:=N.mono e2;replace T:=T.mono e2;refine am 2 V (wT 1 [] 66 67 [] [(67,(decide ((m:Int)<5)))] V fun _=>zd 4 5 (fun sD=>?_) fun sD=>?_)
  ·refine wT 3 [] 1 0 [13] [(13,(iI (-1)))] V fun _=>?_
   obtain⟨uq,pI⟩:=Sv.view (SR.sv e4 ax);have xr:=fL (pI r);refine wrp 2 70 75 [14] [(14,(iI (((a7.getD r v_).length:Int)-1)))] (Ha_ (Sv.ix (j:=(r:Int)) (SR.sv e4 ax)) (Hl_ 3 (ql 22 0 (vL (pI r)) V V) (Ha_ (vi (n:=((a7.getD r v_).length:Int)-1)) Hn_))) K_ V fun _=>aj (fun(mm:Nat) f H'=> ∃(wz:Int) (iz:Int),H'=pU/\aA f [(1,(pT b1 0)),(2,(pT b3 0)),(6,(pT ap 0)),(7,(sL k6 a7.length l3)),(8,(pT jb 0)),(9,(sL aa hd.length ag)),(10,(r:Int)),(11,(sL a1 wh.length a2)),(12,(m:Int)),(13,wz),(14,iz)]/\mm=(iz+1).toNat/\(in64 wz)/\(-1<=iz/\iz<(((a7).getD r v_).length:Int))) _ ⟨(-1),((a7.getD r v_).length:Int)-1,V,f_,V,M,M⟩ ?_
   rintro uV wB pU ⟨wz,iz,rfl,pj,rfl,hwz,hiz⟩ pN;refine au _ pj (fun _=>?_);clear pj;refine am 2 V (wT 1 [] 76 77 [] [(77,(decide ((0:Int)<=iz)))] V fun _=>zd 4 6 (fun sE=>?_) fun sE=>?_)
   ·have CG:=dm z1 (k:=iz.toNat) M;obtain⟨us,pJ⟩:=Sv.view (SR.sv e4 ax);have qK:=fL (pJ r);obtain⟨ut,pK⟩:=Sv.view (SR.sv qK ax);have wJ:=fI (pK iz.toNat);refine wrp 2 80 86 [15] [(15,((a7.getD r v_).getD iz.toNat 0))] (Ha_ (Sv.ix (j:=(r:Int)) (SR.sv e4 ax)) (Hl_ 3 (ql 22 0 (vL (pJ r)) V V) (Ha_ (Sv.ix (j:=iz) (SR.sv qK ax)) (Hl_ 6 (ql 3 0 (vI (pK iz.toNat)) V V) Hn_)))) K_ V fun _=>?_
    obtain⟨uu,rM⟩:=Sv.view (OS.sv av ax (i:=7) V);obtain⟨uv,pL⟩:=Sv.view (OS.sv T ax (i:=5) V);have tT:=LocT.fx (pL ((a7.getD r v_).getD iz.toNat 0).toNat);refine wrp 1 87 100 [] [(100,((hd.getD ((a7.getD r v_).getD iz.toNat 0).toNat false)&&((ll.getD ((a7.getD r v_).getD iz.toNat 0).toNat v_).x==(m:Int))))] (Ha_ (Sv.ix (j:=((a7.getD r v_).getD iz.toNat 0)) (OS.sv av ax (i:=7) V)) (Hl_ 3 (ql 4 0 (vB (rM ((a7.getD r v_).getD iz.toNat 0).toNat)) V V) (bp 6 (fun _=>(ql 29 0 (HS.hc ax (i:=6) V) V V)) (Ha_ (fun(g1:(hd.getD ((a7.getD r v_).getD iz.toNat 0).toNat false)=true)=>(Sv.ix (j:=((a7.getD r v_).getD iz.toNat 0)) (OS.sv T ax (i:=5) V) (by(try simp only[BS]at g1);(first|(dsimp only;omega)|omega)) (by(try simp only[BS]at g1);(first|(dsimp only;omega)|omega)))) (bp 10 (fun g1=>(ql 3 1 (LocT.vw (pL ((a7.getD r v_).getD iz.toNat 0).toNat) (by(try simp only[BS]at g1);(first|(dsimp only;omega)|omega))) V V)) Hn_))))) V V fun _=>zI 0 2 (fun sF=>?_) fun sF=>?_
    ·refine wT 2 [] 101 101 [13] [(13,((a7.getD r v_).getD iz.toNat 0))] V fun _=>wU 1 [] 78 79 [14] [(14,(iI (iz-1)))] (vi (n:=iz-1)) V fun _=>?_
     refine pN _ _ _ ?_ ⟨((a7.getD r v_).getD iz.toNat 0),iz-1,V,f_,V,M,M⟩;omega
    refine wU 1 [] 78 79 [14] [(14,(iI (iz-1)))] (vi (n:=iz-1)) V fun _=>?_
    refine pN _ _ _ ?_ ⟨wz,iz-1,V,f_,V,M,M⟩;omega
   refine wT 1 [] 102 103 [] [(103,(decide (wz<0)))] V fun _=>zd 1 1 (fun sG=>?_) fun sG=>?_
   ·refine ab (aS 8 0 104 111 [] [(107,(sL aa hd.length ag)),(108,(r:Int)),(110,(aG [false,(m:Int)])),(111,(.pointer (some ⟨sB (sL a_ ll.length Z),sO (sL a_ ll.length Z)+r *Rp.sz LocT,none⟩)))] (Hr_ 1 6 (Ha_ (Sv.ix (j:=(r:Int)) (OS.sv T ax (i:=5) V)) Hn_)) ax V V fun _=>cL (bW (α:=LocT) (j:=r) (off:=0) (q:=5) (⟨false,(m:Int)⟩:LocT) T ax V V V V V V V V (aO (x:=v_) M) V (iE (F:=sc) (Y:=(⟨false,(m:Int)⟩:LocT)) (cl:=[false,(m:Int)]) ⟨V,M⟩)) V ?_);rintro _ vy o5 ⟨ib,py,_⟩;have tY:=OS.len' ib;refine bK 1 9 112 112 [] [(112,(.pointer (some ⟨sB (sL aa hd.length ag),sO (sL aa hd.length ag)+r *Rp.sz Bool,none⟩)))] (Ha_ (Sv.ix (j:=(r:Int)) (OS.sv av py (i:=7) V)) Hn_) K_ V fun _=>cL (bW (α:=Bool) (j:=r) (off:=0) (q:=7) true av py V V V V V V V V (aO (x:=false) M) V (by rintro cs rfl;exact⟨a08 V,V⟩)) V ?_
    rintro _ vC o6 ⟨dk,lz,_⟩;have tZ:=OS.len' dk;refine ae 8 V ?_;obtain⟨uw,rO⟩:=Sv.view (OS.sv dk lz (i:=7) V);refine wrp 1 117 121 [] [(121,(!((hd.set r true).getD r false)))] (Ha_ (Sv.ix (j:=(r:Int)) (OS.sv dk lz (i:=7) V)) (Hl_ 3 (ql 4 0 (vB (rO r)) V V) Hn_)) K_ V fun _=>zI 0 2 (fun sH=>?_) fun sH=>?_
    ·refine ab (wTo 4 0 [] 122 125 [] [(122,(pT ap 0)),(125,(aG [(r:Int),(iI 3),(iI 0),(iI 0),(sL a1 wh.length a2)]))] V fun _=>?_);obtain⟨sd,kc,rt,q8,uN⟩:=OS.frz j1 lz (i:=8) V;replace ib:=ib.mono kc;replace dk:=dk.mono kc;replace A:=A.mono kc;replace N:=N.mono kc;refine zc (R:=fun v H'=> ∃(s1:List Bool) (s2:List SpiT),∃hh g6,∃(ha:Nat),∃hj g7,∃(he:Nat),∃F',sd.le F'/\Hb H F' H' [g2,g3,hh,(fP ap [c.m,c.r,(sL a9 c.u.length bb),(sL g6 s1.length ha),(sL g7 s2.length he),(sL ci et.length co)]),hj,o5,o8,o6,[]] R/\OZ F' g6 s1 ha hh/\OZ F' g7 s2 he hj/\v= .tuple #[]/\(s1=(sp).set ((r:Int)).toNat true)/\(s2=sl++[(⟨(r:Int),3,0,0,wh⟩:SpiT)])) ?_ ?_
     ·refine aB Tryz.func59 V V (am 1 V (ab (aT (aN rt V V) V V ?_)));rintro _ vE _ ⟨wj,rfl,l0,_⟩;refine ae 2 V (aC V (cN 7 4 10 [] [(10,(.pointer (some ⟨sB (sL E sp.length U),sO (sL E sp.length U)+r *Rp.sz Bool,none⟩)))] (Hr_ 3 3 (Hr_ 5 9 (Ha_ (Sv.ix (j:=(r:Int)) (OS.sv A l0 (i:=2) V)) Hn_))) l0 V V fun _=>gc (id:= .x (aw.map Prod.fst)) (bW (α:=Bool) (j:=r) (off:=0) (q:=2) true A l0.log0 V V V V V V V V (aO (x:=false) M) V (by rintro cs rfl;exact⟨a08 V,V⟩)) V (by rintro _ _ qI ⟨oy,_,hwr⟩;exact dh V V (Wr.did hwr)) (kb V) ?_));rintro _ sk qI ⟨oy,kl,_⟩ rU qg;replace kl:=HS.lg kl l0 qg;generalize ({sk with log:=rU}:Heap)=uc at kl⊢;have t0:=OS.len' oy;refine aW 1 V (aC V (cN 6 11 16 [] [(11,(pT ap 0)),(15,(sL aq sl.length ar)),(16,(aG [(r:Int),(iI 3),(iI 0),(iI 0),(sL a1 wh.length a2)]))] (Hr_ 4 3 (Hr_ 5 9 Hn_)) kl V V fun _=>zld ([(⟨(r:Int),3,0,0,wh⟩:SpiT)]:List SpiT) kl V (RL.cs ⟨a1,a2,V,M,M,M,M,q8⟩ RL.nl) V fun wb w9 xn ud qZ pz=>zad 4 N pz (OS.sv qZ pz (i:=10) V) V V V M (kb V) fun ss td tt ue q0 rv=>sdo 3 19 20 [] [] (Hr_ 10 3 Hn_) rv V V fun uB vG rx=>?_));refine aW 0 V (aM ⟨.inl V,_,V,sp.set r true,sl++([(⟨(r:Int),3,0,0,wh⟩:SpiT)]:List SpiT),qI,E,U,tt,ss,td,_,fR,(by(simpa only[a0f] using(HS.sub rx (a01 _ _)))),(OS.norm oy),q0,V,m_,m_⟩)
     rintro _ vD ⟨s1,s2,hh,g6,ha,hj,g7,he,u2,oh,ru,oL,oM,rfl,ki,k3⟩;replace ib:=ib.mono oh;replace dk:=dk.mono oh;refine ae 2 V (wU 1 [] 57 58 [10] [(10,(iI ((r:Int)+1)))] (vi (n:=(r:Int)+1)) V fun _=>?_);refine ko _ _ _ ?_ ⟨s1,s2,ll.set r (⟨false,(m:Int)⟩:LocT),hd.set r true,r+1,aa,ag,o6,hh,g6,ha,hj,g7,he,o5,a_,Z,_,(fT (fT (fT (h9) e2) kc) oh),(by(simpa only[a0f] using(HS.sub ru (a01 _ _)))),(OS.norm dk),oL,oM,(OS.norm ib),(agC V (agC V (agC V (agC V (agC V (agC (show Value.slice aa hd.length ag=Value.slice aa (hd.set r true).length ag by rw[OS.len' dk]) f_)))))),V,(by(rw[ki,k3];exact nm.set M zR (by dsimp only;omega))),(by(simp only[a0f];exact hll)),(by(simp only[a0f];exact hhd)),M⟩;omega
    refine wU 1 [] 57 58 [10] [(10,(iI ((r:Int)+1)))] (vi (n:=(r:Int)+1)) V fun _=>?_
    refine ko _ _ _ ?_ ⟨sp,sl,ll.set r (⟨false,(m:Int)⟩:LocT),hd.set r true,r+1,aa,ag,o6,aw,E,U,a5,aq,ar,o5,a_,Z,_,(fT (h9) e2),(by(simpa only[a0f] using(HS.sub lz (a01 _ _)))),(OS.norm dk),A,N,(OS.norm ib),(agC V (agC V (agC V (agC V (agC V (agC (show Value.slice aa hd.length ag=Value.slice aa (hd.set r true).length ag by rw[OS.len' dk]) f_)))))),V,M,(by(simp only[a0f];exact hll)),(by(simp only[a0f];exact hhd)),M⟩;omega
   refine ab (wTo 2 0 [] 113 114 [] [(113,(sL a1 wh.length a2)),(114,wz)] V fun _=>zlo [wz] ax V (RL.cs ⟨V,M⟩ RL.nl) V fun wc xb xo vJ q1 pA=>zao 8 j1 pA (OS.sv q1 pA (i:=9) V) V V V M fun pZ qD tu vK q2 ry=>za (sL pZ (wh++[wz]).length qD) (ae 2 V ?_));refine wU 1 [] 68 69 [12] [(12,(iI ((m:Int)+1)))] (vi (n:=(m:Int)+1)) V fun _=>?_
   refine rR _ _ _ ?_ ⟨wh++[wz],m+1,pZ,qD,tu,_,(e2),(HS.sub ry (a01 _ _)),q2,f_,V,M,(by rw[a02,a0j];omega)⟩;omega
  obtain⟨ux,rP⟩:=Sv.view (OS.sv av ax (i:=7) V);refine wrp 1 117 121 [] [(121,(!(hd.getD r false)))] (Ha_ (Sv.ix (j:=(r:Int)) (OS.sv av ax (i:=7) V)) (Hl_ 3 (ql 4 0 (vB (rP r)) V V) Hn_)) K_ V fun _=>zI 0 2 (fun sI=>?_) fun sI=>?_
  ·refine ab (wTo 4 0 [] 122 125 [] [(122,(pT ap 0)),(125,(aG [(r:Int),(iI 3),(iI 0),(iI 0),(sL a1 wh.length a2)]))] V fun _=>?_);obtain⟨se,kd,rA,q9,uO⟩:=OS.frz j1 ax (i:=8) V;replace av:=av.mono kd;replace A:=A.mono kd;replace N:=N.mono kd;replace T:=T.mono kd;refine zc (R:=fun v H'=> ∃(s1:List Bool) (s2:List SpiT),∃hl g8,∃(hf:Nat),∃hn g9,∃(hg:Nat),∃F',se.le F'/\Hb H F' H' [g2,g3,hl,(fP ap [c.m,c.r,(sL a9 c.u.length bb),(sL g8 s1.length hf),(sL g9 s2.length hg),(sL ci et.length co)]),hn,ay,o8,b8,[]] R/\OZ F' g8 s1 hf hl/\OZ F' g9 s2 hg hn/\v= .tuple #[]/\(s1=(sp).set ((r:Int)).toNat true)/\(s2=sl++[(⟨(r:Int),3,0,0,wh⟩:SpiT)])) ?_ ?_
   ·refine aB Tryz.func59 V V (am 1 V (ab (aT (aN rA V V) V V ?_)));rintro _ vN _ ⟨wk,rfl,l1,_⟩;refine ae 2 V (aC V (cN 7 4 10 [] [(10,(.pointer (some ⟨sB (sL E sp.length U),sO (sL E sp.length U)+r *Rp.sz Bool,none⟩)))] (Hr_ 3 3 (Hr_ 5 9 (Ha_ (Sv.ix (j:=(r:Int)) (OS.sv A l1 (i:=2) V)) Hn_))) l1 V V fun _=>gc (id:= .x (aw.map Prod.fst)) (bW (α:=Bool) (j:=r) (off:=0) (q:=2) true A l1.log0 V V V V V V V V (aO (x:=false) M) V (by rintro cs rfl;exact⟨a08 V,V⟩)) V (by rintro _ _ qJ ⟨oz,_,hwr⟩;exact dh V V (Wr.did hwr)) (kb V) ?_));rintro _ sn qJ ⟨oz,kn,_⟩ rV qh;replace kn:=HS.lg kn l1 qh;generalize ({sn with log:=rV}:Heap)=uf at kn⊢;have t1:=OS.len' oz;refine aW 1 V (aC V (cN 6 11 16 [] [(11,(pT ap 0)),(15,(sL aq sl.length ar)),(16,(aG [(r:Int),(iI 3),(iI 0),(iI 0),(sL a1 wh.length a2)]))] (Hr_ 4 3 (Hr_ 5 9 Hn_)) kn V V fun _=>zld ([(⟨(r:Int),3,0,0,wh⟩:SpiT)]:List SpiT) kn V (RL.cs ⟨a1,a2,V,M,M,M,M,q9⟩ RL.nl) V fun we xc xp ug q3 pB=>zad 4 N pB (OS.sv q3 pB (i:=10) V) V V V M (kb V) fun su te tw uh q4 rD=>sdo 3 19 20 [] [] (Hr_ 10 3 Hn_) rD V V fun uC vO rE=>?_));refine aW 0 V (aM ⟨.inl V,_,V,sp.set r true,sl++([(⟨(r:Int),3,0,0,wh⟩:SpiT)]:List SpiT),qJ,E,U,tw,su,te,_,fR,(by(simpa only[a0f] using(HS.sub rE (a01 _ _)))),(OS.norm oz),q4,V,m_,m_⟩)
   rintro _ vM ⟨s1,s2,hl,g8,hf,hn,g9,hg,u4,oo,rB,oO,oP,rfl,ki,k3⟩;replace av:=av.mono oo;replace T:=T.mono oo;refine ae 2 V (wU 1 [] 57 58 [10] [(10,(iI ((r:Int)+1)))] (vi (n:=(r:Int)+1)) V fun _=>?_);refine ko _ _ _ ?_ ⟨s1,s2,ll,hd,r+1,aa,ag,b8,hl,g8,hf,hn,g9,hg,ay,a_,Z,_,(fT (fT (fT (h9) e2) kd) oo),(HS.sub rB (a01 _ _)),av,oO,oP,T,f_,V,(by(rw[ki,k3];exact nm.set M zR (by dsimp only;omega))),(hll),(hhd),M⟩;omega
  refine wU 1 [] 57 58 [10] [(10,(iI ((r:Int)+1)))] (vi (n:=(r:Int)+1)) V fun _=>?_
  refine ko _ _ _ ?_ ⟨sp,sl,ll,hd,r+1,aa,ag,b8,aw,E,U,a5,aq,ar,ay,a_,Z,_,(fT (h9) e2),(HS.sub ax (a01 _ _)),av,A,N,T,f_,V,M,(hll),(hhd),M⟩;omega
 refine sgr 3 127 129 [] [] (Hr_ 1 0 (Hr_ 3 6 Hn_)) ih V V fun uD vP rF=>wT 2 [] 1 0 [16] [(16,(iI 0))] V fun _=>aj (fun(mm:Nat) f H'=> ∃(lf:List LocT) (sz:Int) (rr:Nat),∃ht a3,∃(a4:Nat),∃F',pS.le F'/\Hb H F' H' [g2,g3,aw,(fP ap [c.m,c.r,(sL a9 c.u.length bb),(sL E sp.length U),(sL aq sl.length ar),(sL ci et.length co)]),a5,ht,(fP jb [(sL a3 lf.length a4),N_,sz]),b8] R/\OZ F' a3 lf a4 ht/\aA f [(1,(pT b1 0)),(2,(pT b3 0)),(6,(pT ap 0)),(8,(pT jb 0)),(16,(rr:Int))]/\mm=c.r.toNat-rr/\(lf.length=c.r.toNat)/\(c.m<=sz/\sz<=c.m+rr)/\(rr<=c.r.toNat)) _ ⟨ll,c.m,0,ay,a_,Z,_,fR,rF,T,f_,V,M,M,M⟩ ?_
 rintro uW wC vQ ⟨lf,sz,rr,ht,a3,a4,sf,kg,g5,b9,pm,rfl,hlf,hsz,zQ⟩ pO;refine au _ pm (fun _=>?_);clear pm;replace A:=A.mono kg;replace N:=N.mono kg;have w4:=nm.len;refine am 2 V (aU 1 130 133 [] [(133,(decide ((rr:Int)<c.r)))] (Hr_ 2 0 Hn_) g5 V V fun _=>zd 4 5 (fun sJ=>?_) fun sJ=>?_)
 ·obtain⟨uy,rQ⟩:=Sv.view (OS.sv A g5 (i:=2) V);refine aU 1 136 142 [] [(142,(sp.getD rr false))] (Hr_ 3 3 (Ha_ (Sv.ix (j:=(rr:Int)) (OS.sv A g5 (i:=2) V)) (Hl_ 6 (ql 4 0 (vB (rQ rr)) V V) Hn_))) g5 V V fun _=>zI 1 2 (fun sM=>?_) fun sM=>?_
  ·refine ab (aS 7 0 143 149 [] [(148,(aG [true,sz])),(149,(.pointer (some ⟨sB (sL a3 lf.length a4),sO (sL a3 lf.length a4)+rr *Rp.sz LocT,none⟩)))] (Hr_ 1 6 (Hr_ 4 6 (Ha_ (Sv.ix (j:=(rr:Int)) (OS.sv b9 g5 (i:=5) V)) Hn_))) g5 V V fun _=>cL (bW (α:=LocT) (j:=rr) (off:=0) (q:=5) (⟨true,sz⟩:LocT) b9 g5 V V V V V V V V (aO (x:=v_) M) V (iE (F:=sf) (Y:=(⟨true,sz⟩:LocT)) (cl:=[true,sz]) ⟨V,M⟩)) V ?_);rintro _ vR tx ⟨pn,rG,_⟩;have t2:=OS.len' pn;refine ae 1 V (sgr 2 150 153 [] [] (Hr_ 1 6 (Ha_ (vi (n:=sz+1)) (Hr_ 4 6 Hn_))) rG V V fun uE vT rH=>wU 1 [] 134 135 [16] [(16,(iI ((rr:Int)+1)))] (vi (n:=(rr:Int)+1)) V fun _=>?_);refine pO _ _ _ ?_ ⟨lf.set rr (⟨true,sz⟩:LocT),sz+1,rr+1,tx,a3,a4,_,(kg),(by(simpa only[a0f] using rH)),(OS.norm pn),f_,V,(by(rw[a0f];exact hlf)),M,M⟩;omega
  refine wU 1 [] 134 135 [16] [(16,(iI ((rr:Int)+1)))] (vi (n:=(rr:Int)+1)) V fun _=>?_
  refine pO _ _ _ ?_ ⟨lf,sz,rr+1,ht,a3,a4,_,(kg),g5,b9,f_,V,(hlf),M,M⟩;omega
 obtain⟨u5,pd,rI,oD,uP⟩:=OS.frz N g5 (i:=4) V;replace b9:=b9.mono pd;refine sgr 3 154 158 [] [] (Hr_ 3 3 (Hr_ 5 6 Hn_)) rI V V fun uF vV pC=>aU 1 159 161 [] [(161,(decide ((3000:Int)<sz)))] (Hr_ 1 6 Hn_) pC V V fun _=>dy 2 (v:=(decide ((3000:Int)<sz))) V l_ V V (sgr 1 3 3 [163] [(3,(iI 0))] (Hr_ 0 6 (Hr_ 1 1 Hn_)) pC V V fun uG vW pD=>?_)
 obtain⟨u7,pe,rJ,rc,uQ⟩:=OS.frz b9 pD (i:=5) V;replace oD:=oD.mono pe;refine ak ⟨.inr V,_,(rC V (l7 V V (i_ pD V) V) (rT V rN)),(⟨lf,sl,sz⟩:AllT),a3,a4,aq,ar,0,_,(fT (fT (fT (fT (fT (fT (fT (fT (fT (p7) p8) ob) oc) oZ) oa) h9) kg) pd) pe),(HS.forget rJ),V,M,rc,oD,m_,(hlf),(nm.small vF),(nm.oth)⟩
end nr
end Go.Proofs.YtgdggmlghemecaaGreatDoor
