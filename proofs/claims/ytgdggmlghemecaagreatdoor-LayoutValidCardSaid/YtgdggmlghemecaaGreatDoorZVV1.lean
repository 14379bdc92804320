/-
Symbolic runs of the code that the law reaches, part 2. No condition but bounds on lengths.
-/
import Derived.Test.YtgdggmlghemecaaGreatDoorZVV0
noncomputable section
namespace Go.Proofs.YtgdggmlghemecaaGreatDoor
open Go.R
open Inhabited renaming default→v_
set_option maxRecDepth 10000
set_option maxHeartbeats 8000000
set_option linter.unusedVariables false
set_option linter.unusedSimpArgs false
open m1 m2 m3 m4 m5 m6 m7 m8 ma ml mb mc md mf
namespace mg
variable (ex:FuncId) {F:Fz} {H:Heap} {R:List Fp}
def acK(c:VFnT)(k r:Nat):Prop:= ∃b i,b<k/\i<(bB c b).v.length/\acI c b i r
theorem call_a{p g:Int}{v:VInT}(h:eP p g v=true)(T:v.i.op=6):0<=v.i.a/\v.i.a<g/\∀x∈v.args,0<=x/\x<g:=by
 unfold eP at h;simp only[a09]at h;obtain⟨⟨⟨⟨⟨_,N⟩,E⟩,_⟩,_⟩,_⟩:=h;rw[T]at E;have e:(decide (aK 6≠1))=true:=by decide
 rw[e]at E;have E:m2.bh g v.i.a=true:=E;unfold m2.bh at N E;simp only[decide_eq_true_eq,a0m]at N E;exact⟨E.1,E.2,N⟩
theorem rem0{s w:List U64}{n:Nat}{l:List Int}(h: ∀i,aH w i=(aH s i&& !decide (i=n)))(i:Nat):aH w i=((aH s i&& !decide (i=n))||decide ((i:Int)∈l.take 0)):=by rw[h];simp
theorem add_f{f:Nat->Bool}{w w':List U64}{l:List Int}{k:Nat}(U:k<l.length)(h: ∀i,aH w i=(f i||decide ((i:Int)∈l.take k)))(T:0<=l.getD k 0)(N: ∀i,aH w' i=(aH w i||decide (i=(l.getD k 0).toNat)))(i:Nat):aH w' i=(f i||decide ((i:Int)∈l.take (k+1))):=by
 rw[N,h,aX U (d:=0),Bool.or_assoc];congr 1;rw[a0s];simp only[a0A,decide_eq_true_eq,a07,a08];constructor
 ·rintro(E|E)
  ·exact .inl E
  exact .inr M
 rintro(E|E)
 ·exact .inl E
 exact .inr M
theorem ac_yes{c:VFnT}{b i q:Nat}{s w a U:List U64}(Z:((bB c b).v.getD i v_).i.op=6)(T:0<=((bB c b).v.getD i v_).i.a)(hs: ∀r,aH s r=true↔ptS c b (i+1) r)(hq:((bB c b).v.getD i v_).args.length<=q)
  (hw: ∀r,aH w r=((aH s r&& !decide (r=((bB c b).v.getD i v_).i.a.toNat))||decide ((r:Int)∈((bB c b).v.getD i v_).args.take q))) (ha: ∀r,aH U r=(aH a r||aH w r)) (r:Nat):aH U r=true↔(aH a r=true\/acI c b i r):=by
 rw[ha,hw,a0i hq]
 simp only[a0A,a09,a0G,decide_eq_false_iff_not,decide_eq_true_eq,hs]
 unfold acI
 constructor
 ·rintro(h|⟨E,N⟩|h)
  ·exact .inl h
  ·exact .inr ⟨Z,.inl ⟨E,by omega⟩⟩
  exact .inr ⟨Z,.inr h⟩
 rintro(h|⟨_,⟨E,N⟩|h⟩)
 ·exact .inl h
 ·exact .inr (.inl ⟨E,by omega⟩)
 exact .inr (.inr h)
theorem ac_no{c:VFnT}{b i:Nat}{a:List U64}(E:((bB c b).v.getD i v_).i.op≠6)(r:Nat):aH a r=true↔(aH a r=true\/acI c b i r):=⟨.inl,fun h=>h.elim id fun h=>absurd h.1 E⟩
theorem ac_step{c:VFnT}{b:Nat}{i:Int}{a Z:List U64}(hi:0<=i)(hn:i.toNat<(bB c b).v.length)(h: ∀r,aH a r=true↔(acK c b r\/∃j,(i+1).toNat<=j/\j<(bB c b).v.length/\acI c b j r))(U: ∀r,aH Z r=true↔(aH a r=true\/acI c b i.toNat r))(r:Nat):
  aH Z r=true↔(acK c b r\/∃j,(i-1+1).toNat<=j/\j<(bB c b).v.length/\acI c b j r):=by
 rw[U,h]
 constructor
 ·rintro((E|⟨j,E,T,N⟩)|E)
  ·exact .inl E
  ·exact .inr ⟨j,by omega,T,N⟩
  exact .inr ⟨i.toNat,by omega,hn,E⟩
 rintro(E|⟨j,E,T,N⟩)
 ·exact .inl (.inl E)
 rcases a0g j (i+1).toNat with hj|hj
 ·have:j=i.toNat:=M
  subst this;exact .inr N
 exact .inl (.inr ⟨j,hj,T,N⟩)
theorem ac_first{c:VFnT}{b n:Nat}{a:List U64}(T:(bB c b).v.length<=n)(h: ∀r,aH a r=true↔acK c b r)(r:Nat):aH a r=true↔(acK c b r\/∃j,n<=j/\j<(bB c b).v.length/\acI c b j r):=by rw[h];exact⟨.inl,fun h=>h.elim id fun⟨j,N,E,_⟩=>absurd E M⟩
theorem ac_next{c:VFnT}{b:Nat}{i:Int}{a:List U64}(hi:i<0)(h: ∀r,aH a r=true↔(acK c b r\/∃j,(i+1).toNat<=j/\j<(bB c b).v.length/\acI c b j r))(r:Nat):aH a r=true↔acK c (b+1) r:=by
 rw[h];constructor
 ·rintro(⟨U,j,T,E,N⟩|⟨j,_,E,N⟩)
  ·exact⟨U,j,by omega,E,N⟩
  exact⟨b,j,by omega,E,N⟩
 rintro⟨U,j,T,E,N⟩;rcases a0g U b with hb|hb
 ·exact .inl ⟨U,j,hb,E,N⟩
 have:U=b:=M
 subst this;exact .inr ⟨j,by omega,E,N⟩
theorem ac_zero{c:VFnT}{a:List U64}(h: ∀i,aH a i=false)(r:Nat):aH a r=true↔acK c 0 r:=by rw[h];exact⟨fun h=>(by cases h),fun⟨b,_,E,_⟩=>absurd E (a0B _)⟩
theorem ac_all{c:VFnT}{a:List U64}{k:Nat}(E:c.u.length=k)(h: ∀r,aH a r=true↔acK c k r):Lst (jU a) (acS c):=lst_of fun r=>by rw[h];subst E;exact Iff.rfl
theorem across_c{ax:Option Addr}{ay:Nat}(c:VFnT)(hs:HS (.of H []) F H [] R)(l9:in64 c.m)(mk:in64 c.r)(a1:SR F (sL ax c.u.length ay) c.u)(hT:TB 37 tabC F)(fz: ∀j,(c.u.getD j v_).v.length<=1073741824):kKt ex 69 [(aG [(iI c.m),(iI c.r),(sL ax c.u.length ay)])] H fun v H'=> ∃(ar:Option Addr) (kr:Nat) (r:List Int) (p:Fp) (F':Fz),Fz.le F F'/\HS (.of H []) F' H' [p] R/\v=sL ar r.length kr/\OS F' (sL ar r.length kr) r p/\(ca c=true->Lst r (acS c))/\(ca c=false->r=[]):=by
 refine aC Tryz.func69 V V (am 1 V (ab (bd (aR hs V V) V V ?_)));rintro _ H2 _ ⟨b1,rfl,hg,_⟩;let hM:Value:=(aG [(iI c.m),(iI c.r),(sL ax c.u.length ay)])
 refine za (sL none 0 0) (ah 3 V (ab (aY 1 0 14 14 [] [(14,hM)] (Hr_ 0 0 Hn_) hg V V fun _=>zc (m3.kE ex c (HS.call hg) M M a1 hT (fun j=>a0e (fz j) M)) ?_)));rintro _ H4 ⟨r4,F4,f9,c5,rfl,rfl⟩;replace c5:=HS.back hg V c5;replace hT:=hT.mono f9;replace a1:=a1.mono f9;refine bL 1 2 16 16 [] [(16,(.bool (!(ca c))))] Hn_ (by kernel_rfl) V fun _=>ah 1 V (zI 1 2 (fun c6=>?_) fun c6=>?_)
 ·have hv:=c6;refine wT 1 [] 2 2 [] [(2,(sL none 0 0))] V fun _=>aj ⟨.inr V,_,V,none,0,([]:List Int),[],_,(f9),(HS.cons (HS.forget c5)),V,(OS.nil:OS _ _ _ []),(by first|exact fun h=>absurd (h.symm.trans hv) e_|exact fun _=>ac_all M g3),(by first|exact fun _=>rfl|exact fun h=>absurd (hv.symm.trans h) e_)⟩
 have hv:=c6;have vF:=e7 hv;have p2:=vF.nb;have p3:=vF.r;have p4:=wd_le vF.r;refine ab (aY 1 0 18 18 [] [(18,hM)] (Hr_ 0 0 Hn_) c5 V V fun _=>zc (mc.analyze_c ex c (HS.call c5) M M a1 hT X (fun j=>a0e (fz j) M)) ?_);rintro _ H9 ⟨k3,nm,o3,b3,cg,av,F9,g9,ez,rfl,kz,b2,h9⟩;replace ez:=HS.back c5 V ez;replace hT:=hT.mono g9;refine bL 5 2 20 21 [3,4,17] [(4,(sL b3 av.length cg))] Hn_ (by kernel_rfl) V fun _=>ah 2 V ?_
 have an:=(by assumption:AnF c _ _)
 have pZ:=an.li;have p0:=an.lo;refine ab (aY 2 0 22 23 [] [(23,(iI c.r))] (Hr_ 1 0 Hn_) ez V V fun _=>zc (mb.empty_c ex c.r (HS.call ez) M hT M) ?_);rintro _ ow ⟨g4,ht,o9,jw,il,dk,d1,rfl,hF,rfl⟩;replace d1:=HS.back ez V d1;let g2:Fp:=(fP b1 [(iI c.m),(iI c.r),(sL ax c.u.length ay)])
 refine za (sL g4 (List.replicate (Int.tdiv (c.r+63) 64).toNat (⟨0⟩:U64)).length ht) (ah 3 V (aU 2 25 28 [] [(26,(sL ax c.u.length ay)),(27,(iI (c.u.length:Int))),(28,(iI 0))] (Hr_ 1 0 Hn_) d1 V V fun _=>ak (fun(mm:Nat) f H'=> ∃(aw:List U64) (k:Nat) (a2:Option Addr) (a3:Nat) (bb:Fp) (F':Fz),Fz.le il F'/\HS (Base.of H []) F' H' [g2,bb] R/\OS F' (sL a2 aw.length a3) aw bb/\aB f [(4,(sL b3 av.length cg)),(5,(sL a2 aw.length a3)),(26,(sL ax c.u.length ay)),(27,(iI (c.u.length:Int))),(28,(iI (k:Int)))]/\mm=c.u.length-k/\(aw.length=wds c)/\(∀r,aH aw r=true↔acK c k r)/\(k<=c.u.length)) _ ⟨List.replicate (Int.tdiv (c.r+63) 64).toNat (⟨0⟩:U64),0,g4,ht,jw,_,fR,d1,hF,⟨V,V,V,V,V,trivial⟩,V,(by simp[wds]),(ac_zero (fun i=>bit_rep _ _)),r_⟩ ?_));rintro n6 oY ox ⟨aw,k,a2,a3,bb,hH,b5,b7,a7,ha,rfl,oW,g3,hk⟩ h4;refine au _ ha (fun _=>?_);clear ha;replace hT:=(hT.mono dk).mono b5;replace a1:=((a1.mono g9).mono dk).mono b5;replace b2:=(b2.mono dk).mono b5;refine am 1 V (wT 2 [] 29 29 [] [(29,(.bool (decide ((k:Int)<(c.u.length:Int)))))] V fun _=>zd 4 5 (fun i2=>?_) fun i2=>?_)
 ·have gb:k<c.u.length:=M
  have pY:((c.u.getD k v_).f=2\/(c.u.getD k v_).f=3)->0<=(c.u.getD k v_).r/\(c.u.getD k v_).r<c.r:=vF.f k gb;have pX:=fz k;have pF:=an.wo k gb;have ne:(av.getD k []).length=wds c:=pF;refine ab ?_;obtain⟨dd,hl⟩:=Sv.view (SR.sv a1 b7);obtain⟨kg,ki,kk,kl,bl⟩:=BlkT.fx (hl k);let hO:Value:=(aG [(sL (cA (dd k) 0) (c.u.getD k v_).v.length (cK (dd k) 0)),(iI (c.u.getD k v_).f),(iI (c.u.getD k v_).r),(iI (c.u.getD k v_).t),(iI (c.u.getD k v_).e)])
  refine bL 3 0 30 32 [] [(30,(iI (k:Int))),(32,hO)] (Ha_ (Sv.ix (j:=(k:Int)) (SR.sv a1 b7)) (Hl_ 2 (qn 82 0 5 (BlkT.vw (hl k)) V V V V) Hn_)) (by kernel_rfl) V fun _=>zn b7 V fun f7 oy h1=>sgo 2 4 1 0 [6] [(6,(iI (k:Int)))] (Hr_ 5 2 Hn_) h1 V V fun k6 oz h2=>ah 2 V (ab (zlo ([]:List U64) h2 V RL.nl V fun oU o5 o7 oD hX d2=>?_))
  obtain⟨g7,hm⟩:=Sv.view (SR.sv b2 d2);have kd:=fL (hm k);refine bL 4 1 34 37 [] [(37,(sL (cA (g7 k) 0) (av.getD k v_).length (cK (g7 k) 0)))] (Ha_ (Sv.ix (j:=(k:Int)) (SR.sv b2 d2)) (Hl_ 4 (ql 185 0 (vL (hm k)) V V) Hn_)) (by kernel_rfl) V fun _=>zao 3 hX d2 (SR.sv kd d2) V V V M fun ci c7 ka oE fi f0=>?_
  have fi:OS hH (sL ci (av.getD k v_).length c7) (av.getD k v_) ka:=fi;refine za (sL ci (av.getD k v_).length c7) (ah 2 V (ab (aY 2 0 39 40 [] [(39,(sL ci (av.getD k v_).length c7)),(40,hO)] (Hr_ 1 2 Hn_) f0 V V fun _=>zc (mb.addT_c ex (av.getD k v_) (c.u.getD k v_) (HS.callOwn f0 (i:=3) V) fi bl M M M M hT M M) ?_)));rintro _ oF ⟨hw,h7,it,dl,ef,rfl,e2,k8,l1⟩;replace ef:=f0.bO ef;replace a7:=a7.mono dl;have nx:=OS.len' e2;let hD:Fp:=(fP f7 [(sL (cA (dd k) 0) (c.u.getD k v_).v.length (cK (dd k) 0)),(iI (c.u.getD k v_).f),(iI (c.u.getD k v_).r),(iI (c.u.getD k v_).t),(iI (c.u.getD k v_).e)])
  refine ah 2 V (aU 2 42 45 [9] [(9,(iI (((c.u.getD k v_).v.length:Int)-1)))] (Hr_ 1 2 (Ha_ (vi (n:=((c.u.getD k v_).v.length:Int)-1)) Hn_)) ef V V fun _=>ak (fun(mm:Nat) f H'=> ∃(ap:List U64) (sw:List U64) (iz:Int) (E:Option Addr) (T:Nat) (aq:Fp) (N:Option Addr) (U:Nat) (a4:Fp) (F':Fz),Fz.le it F'/\HS (Base.of H []) F' H' [g2,aq,hD,a4] R/\OS F' (sL E ap.length T) ap aq/\OS F' (sL N sw.length U) sw a4/\aB f [(4,(sL b3 av.length cg)),(5,(sL E ap.length T)),(7,(pT f7 0)),(8,(sL N sw.length U)),(9,(iI iz)),(26,(sL ax c.u.length ay)),(27,(iI (c.u.length:Int))),(28,(iI (k:Int)))]/\mm=(iz+1).toNat/\(ap.length=wds c)/\(∀r,aH ap r=true↔(acK c k r\/∃j,(iz+1).toNat<=j/\j<(c.u.getD k v_).v.length/\acI c k j r))/\(sw.length=wds c)/\(-1<=iz/\iz<((c.u.getD k v_).v.length:Int))/\(∀r,aH sw r=true↔ptS c k (iz+1).toNat r)) _ ⟨aw,hw,((c.u.getD k v_).v.length:Int)-1,a2,a3,bb,ci,c7,h7,_,fR,ef,a7,(OS.norm e2),(agC V (agC V (agC V (agC (show Value.slice ci (av.getD k v_).length c7=Value.slice ci hw.length c7 by rw[OS.len' e2]) ⟨V,V,V,V,trivial⟩)))),V,M,(ac_first (show(c.u.getD k v_).v.length<=_ by omega) g3),M,M,(pt_start (show(c.u.getD k v_).v.length<=_ by omega) (an.ho _ gb) X)⟩ ?_);rintro oa oZ oG ⟨ap,sw,iz,E,T,aq,N,U,a4,hI,dn,b8,aa,a8,hb,rfl,oX,hJ,e1,e3,e4⟩ h5;refine au _ hb (fun _=>?_);clear hb;replace hT:=(hT.mono dl).mono dn;replace bl:=(bl.mono dl).mono dn;refine am 2 V (wT 1 [] 46 47 [] [(47,(.bool (decide ((0:Int)<=iz))))] V fun _=>zd 4 5 (fun i3=>?_) fun i3=>?_)
  ·have k4:iz.toNat<(c.u.getD k v_).v.length:=M
   have pb:=vF.v k gb iz.toNat k4;have a0:(∀x∈aF ((c.u.getD k v_).v.getD iz.toNat v_),0<=x/\x<c.r)/\(∀x∈ae ((c.u.getD k v_).v.getD iz.toNat v_),0<=x/\x<c.r)/\((c.u.getD k v_).v.getD iz.toNat v_).args.length<=6:=bF pb;have m0:=a0.2.2;refine ab ?_;obtain⟨ag,hn⟩:=Sv.view (SR.sv bl b8);obtain⟨kn,ko,kp,kx,ky,aA⟩:=VInT.fx (hn iz.toNat);let hP:Value:=(aG [(iI ((c.u.getD k v_).v.getD iz.toNat v_).i.op),(iI ((c.u.getD k v_).v.getD iz.toNat v_).i.a),(iI ((c.u.getD k v_).v.getD iz.toNat v_).i.b),(iI ((c.u.getD k v_).v.getD iz.toNat v_).i.c),(iI ((c.u.getD k v_).v.getD iz.toNat v_).i.n),(sL (cA (ag iz.toNat) 5) ((c.u.getD k v_).v.getD iz.toNat v_).args.length (cK (ag iz.toNat) 5))])
   refine aY 5 0 50 54 [] [(54,hP)] (Hr_ 1 2 (Ha_ (Sv.ix (j:=iz) (SR.sv bl b8)) (Hl_ 4 (qn 88 0 6 (VInT.vw (hn iz.toNat)) V V V V) Hn_))) b8 V V fun _=>zn b8 V fun f8 oH h3=>sgo 1 6 1 0 [] [] (Hr_ 6 4 Hn_) h3 V V fun k7 oI f1=>ah 3 V (aU 1 55 58 [] [(58,(.bool (((c.u.getD k v_).v.getD iz.toNat v_).i.op==6)))] (Hr_ 2 4 Hn_) f1 V V fun _=>bj (fun f H'=> ∃(b4:List U64) (a5:Option Addr) (a9:Nat) (bk:Fp) (F':Fz),Fz.le hI F'/\HS (Base.of H []) F' H' [g2,bk,hD,a4,(fP f8 [(iI ((c.u.getD k v_).v.getD iz.toNat v_).i.op),(iI ((c.u.getD k v_).v.getD iz.toNat v_).i.a),(iI ((c.u.getD k v_).v.getD iz.toNat v_).i.b),(iI ((c.u.getD k v_).v.getD iz.toNat v_).i.c),(iI ((c.u.getD k v_).v.getD iz.toNat v_).i.n),(sL (cA (ag iz.toNat) 5) ((c.u.getD k v_).v.getD iz.toNat v_).args.length (cK (ag iz.toNat) 5))])] R/\OS F' (sL a5 b4.length a9) b4 bk/\aB f [(4,(sL b3 av.length cg)),(5,(sL a5 b4.length a9)),(7,(pT f7 0)),(8,(sL N sw.length U)),(9,(iI iz)),(10,(pT f8 0)),(26,(sL ax c.u.length ay)),(27,(iI (c.u.length:Int))),(28,(iI (k:Int)))]/\(b4.length=wds c)/\(∀r,aH b4 r=true↔(aH ap r=true\/acI c k iz.toNat r))) (fun hr=>?_) ?_)
   ·refine zI 1 0 (fun g6=>?_) fun g6=>?_
    ·have gs:=g6;have ks:0<=((c.u.getD k v_).v.getD iz.toNat v_).i.a/\((c.u.getD k v_).v.getD iz.toNat v_).i.a<c.r/\∀x∈((c.u.getD k v_).v.getD iz.toNat v_).args,0<=x/\x<c.r:=call_a pb gs;have hW:=ks.1;have mx:=ks.2.1;refine ab (zlo ([]:List U64) f1 V RL.nl V fun oV o6 o8 oK hY hh=>zm (sL N sw.length U) (zao 5 hY hh (OS.sv a8 hh (i:=3) V) V V V M fun co c8 kc oL fj f3=>?_));have fj:OS hI (sL co sw.length c8) sw kc:=fj;refine za (sL co sw.length c8) (ah 2 V (ab (aY 4 0 62 65 [] [(62,(sL co sw.length c8)),(65,(iI ((c.u.getD k v_).v.getD iz.toNat v_).i.a))] (Hr_ 3 4 Hn_) f3 V V fun _=>zc (mb.rem_c ex sw ((c.u.getD k v_).v.getD iz.toNat v_).i.a (HS.callOwn f3 (i:=5) V) fj M hT M M) ?_)));rintro _ oM ⟨hz,h8,i1,dt,et,rfl,e5,k9,l2⟩;replace et:=f3.bO et;have n1:=OS.len' e5;refine ah 3 V (aU 2 67 70 [] [(68,(sL (cA (ag iz.toNat) 5) ((c.u.getD k v_).v.getD iz.toNat v_).args.length (cK (ag iz.toNat) 5))),(69,(iI (((c.u.getD k v_).v.getD iz.toNat v_).args.length:Int))),(70,(iI 0))] (Hr_ 1 4 Hn_) et V V fun _=>ak (fun(mm:Nat) f H'=> ∃(tw:List U64) (q:Nat) (a_:Option Addr) (Z:Nat) (bz:Fp) (F':Fz),Fz.le i1 F'/\HS (Base.of H []) F' H' [g2,aq,hD,a4,(fP f8 [(iI ((c.u.getD k v_).v.getD iz.toNat v_).i.op),(iI ((c.u.getD k v_).v.getD iz.toNat v_).i.a),(iI ((c.u.getD k v_).v.getD iz.toNat v_).i.b),(iI ((c.u.getD k v_).v.getD iz.toNat v_).i.c),(iI ((c.u.getD k v_).v.getD iz.toNat v_).i.n),(sL (cA (ag iz.toNat) 5) ((c.u.getD k v_).v.getD iz.toNat v_).args.length (cK (ag iz.toNat) 5))]),bz] R/\OS F' (sL a_ tw.length Z) tw bz/\aB f [(4,(sL b3 av.length cg)),(5,(sL E ap.length T)),(7,(pT f7 0)),(8,(sL N sw.length U)),(9,(iI iz)),(10,(pT f8 0)),(11,(sL a_ tw.length Z)),(26,(sL ax c.u.length ay)),(27,(iI (c.u.length:Int))),(28,(iI (k:Int))),(68,(sL (cA (ag iz.toNat) 5) ((c.u.getD k v_).v.getD iz.toNat v_).args.length (cK (ag iz.toNat) 5))),(69,(iI (((c.u.getD k v_).v.getD iz.toNat v_).args.length:Int))),(70,(iI (q:Int)))]/\mm=((c.u.getD k v_).v.getD iz.toNat v_).args.length-q/\(tw.length=wds c)/\(∀i,aH tw i=((aH sw i&& !decide (i=((c.u.getD k v_).v.getD iz.toNat v_).i.a.toNat))||decide ((i:Int)∈((c.u.getD k v_).v.getD iz.toNat v_).args.take q)))/\(q<=((c.u.getD k v_).v.getD iz.toNat v_).args.length)) _ ⟨hz,0,co,c8,h8,_,fR,et,(OS.norm e5),(agC V (agC V (agC V (agC V (agC V (agC V (agC (show Value.slice co sw.length c8=Value.slice co hz.length c8 by rw[OS.len' e5]) ⟨V,V,V,V,V,V,trivial⟩))))))),V,M,(rem0 X),M⟩ ?_);rintro ob o1 oO ⟨tw,q,a_,Z,bz,oh,b6,b9,c9,hf,rfl,pe,hL,hq⟩ h6;refine au _ hf (fun _=>?_);clear hf;replace hT:=(hT.mono dt).mono b6;replace aa:=(aa.mono dt).mono b6;replace aA:=(aA.mono dt).mono b6;refine am 1 V (wT 2 [] 71 71 [] [(71,(.bool (decide ((q:Int)<(((c.u.getD k v_).v.getD iz.toNat v_).args.length:Int)))))] V fun _=>zd 4 4 (fun i4=>?_) fun i4=>?_)
     ·have px:=dG ks.2.2 (k:=q) M;obtain⟨k5,hp⟩:=Sv.view (SR.sv aA b9);have o2:=fI (hp q);refine wrp 1 72 73 [13] [(13,(iI (((c.u.getD k v_).v.getD iz.toNat v_).args.getD q 0)))] (Ha_ (Sv.ix (j:=(q:Int)) (SR.sv aA b9)) (Hl_ 1 (ql 3 0 (vI (hp q)) V V) Hn_)) (by kernel_rfl) V fun _=>ab (wTo 2 0 [] 74 75 [] [(74,(sL a_ tw.length Z)),(75,(iI (((c.u.getD k v_).v.getD iz.toNat v_).args.getD q 0)))] V fun _=>zc (mb.add_c ex tw (((c.u.getD k v_).v.getD iz.toNat v_).args.getD q 0) (HS.callOwn b9 (i:=5) V) c9 M hT M M) ?_)
      rintro _ oP ⟨hA,ib,ol,hR,f4,rfl,e6,lf,l3⟩;replace f4:=b9.bO f4;have n2:=OS.len' e6;refine ah 2 V (wU 1 [] 70 70 [77] [(70,(iI ((q:Int)+1)))] (vi (n:=(q:Int)+1)) V fun _=>?_);refine h6 _ _ _ ?_ ⟨hA,q+1,a_,Z,ib,_,(fT (b6) hR),f4,(OS.norm e6),(agC V (agC V (agC V (agC V (agC V (agC V (agC (show Value.slice a_ tw.length Z=Value.slice a_ hA.length Z by rw[OS.len' e6]) ⟨V,V,V,V,V,V,trivial⟩))))))),V,M,(add_f M hL px.1 X),M⟩;omega
     refine ab (wTo 2 0 [] 78 79 [] [(78,(sL E ap.length T)),(79,(sL a_ tw.length Z))] V fun _=>?_);obtain⟨ot,e0,hj,h0,mI⟩:=OS.frz c9 b9 (i:=5) V;replace hT:=hT.mono e0;replace aa:=aa.mono e0;refine zc (mb.fv ex ap tw (HS.callOwn hj (i:=1) V) aa h0 hT M M) ?_;rintro _ oQ ⟨pc,hB,ih,oo,hS,f5,rfl,e8,lr,l4,l7,l8⟩;replace f5:=hj.bO f5;have n3:=OS.len' e8;refine ah 0 V ?_;exact hr _ _ ⟨hB,E,T,ih,_,(fT (fT (fT (dt) b6) e0) hS),(HS.sub f5 (a03 _ _)),(OS.norm e8),(agC V (agC (show Value.slice E ap.length T=Value.slice E hB.length T by rw[OS.len' e8]) ⟨V,V,V,V,V,V,V,trivial⟩)),M,(ac_yes (c:=c) (b:=k) (i:=iz.toNat) (q:=q) gs hW (by rw[show iz.toNat+1=(iz+1).toNat by omega];exact e4) (show((c.u.getD k v_).v.getD iz.toNat v_).args.length<=q by omega) hL X)⟩
    have gs:=g6;exact hr _ _ ⟨ap,E,T,aq,_,fR,f1,aa,⟨V,V,V,V,V,V,V,V,V,trivial⟩,M,(ac_no (c:=c) (b:=k) (i:=iz.toNat) gs)⟩
   skip;rintro o0 oJ ⟨b4,a5,a9,bk,oc,ds,f2,ch,he,o4,jq⟩;refine au _ he (fun _=>?_);clear he;replace hT:=hT.mono ds;replace a8:=a8.mono ds;replace aA:=aA.mono ds;refine am 1 V (ab (aY 2 0 81 82 [] [(81,(sL N sw.length U)),(82,hP)] (Hr_ 1 4 Hn_) f2 V V fun _=>zc (mb.lZ ex sw ((c.u.getD k v_).v.getD iz.toNat v_) (HS.callOwn f2 (i:=3) V) a8 M M M M M aA hT (by first|omega|exact fun x hx=>by have:=a0.1 x hx;omega|exact fun x hx=>by have:=a0.2.1 x hx;omega) (by first|omega|exact fun x hx=>by have:=a0.1 x hx;omega|exact fun x hx=>by have:=a0.2.1 x hx;omega) (by first|omega|exact fun x hx=>by have:=a0.1 x hx;omega|exact fun x hx=>by have:=a0.2.1 x hx;omega) (by first|omega|exact fun x hx=>by have:=a0.1 x hx;omega|exact fun x hx=>by have:=a0.2.1 x hx;omega)) ?_));rintro _ oR ⟨hC,ik,ou,g8,f6,rfl,fd,l0,l5⟩;replace f6:=f2.bO f6;replace ch:=ch.mono g8;have n4:=OS.len' fd;refine ah 2 V (wU 1 [] 48 49 [9] [(9,(iI (iz-1)))] (vi (n:=iz-1)) V fun _=>?_);refine h5 _ _ _ ?_ ⟨b4,hC,iz-1,a5,a9,bk,N,U,ik,_,(fT (fT (dn) ds) g8),(HS.sub f6 (a03 _ _)),ch,(OS.norm fd),(agC V (agC V (agC V (agC (show Value.slice N sw.length U=Value.slice N hC.length U by rw[OS.len' fd]) ⟨V,V,V,V,trivial⟩)))),V,M,(ac_step M k4 hJ jq),M,M,(by rw[show(iz-1+1).toNat=iz.toNat by omega];exact tr_next k4 (by rw[show iz.toNat+1=(iz+1).toNat by omega];exact e4) X)⟩;omega
  refine wU 1 [] 28 28 [84] [(28,(iI ((k:Int)+1)))] (vi (n:=(k:Int)+1)) V fun _=>?_
  refine h4 _ _ _ ?_ ⟨ap,k+1,E,T,aq,_,(fT (fT (b5) dl) dn),(HS.sub b8 (a03 _ _)),aa,⟨V,V,V,V,V,trivial⟩,V,M,(ac_next M hJ),M⟩;omega
 refine ab (zm (sL a2 aw.length a3) ?_);obtain⟨k0,go,g1,hG,hE⟩:=OS.frz a7 b7 (i:=1) V;refine zc (mb.list_c ex aw (HS.call g1) hG (hT.mono go) M) ?_;rintro _ oT ⟨g5,hu,pd,hK,ov,hV,cc,rfl,dv,rfl⟩;replace cc:=HS.back g1 V cc;replace cc:=HS.thawX (b_:=[hK]) b7 (i:=1) V go hE hV cc;replace dv:=OS.ind (F':=hH) dv;refine za (sL g5 (jU aw).length hu) (ah 1 V (aj ⟨.inr V,_,V,g5,hu,jU aw,hK,_,(fT (fT (fT (f9) g9) dk) b5),(HS.only cc (i:=2) V),V,dv,(fun _=>ac_all M g3),(fun h=>absurd (hv.symm.trans h) e_)⟩))
end mg
open mg
namespace mh
variable (ex:FuncId) {F:Fz} {H:Heap} {R:List Fp}
def oS(o:List Int)(r:Nat):Prop:=(r:Int)∈o
structure RpO(b:BlkT)(o:List Int)(g:Int):Prop where
 gb:0<=g/\g<=3000
 len:b.v.length<=1073741824
 v: ∀i,i<b.v.length->(∀x∈aF (b.v.getD i v_),0<=x/\x<g)/\(∀x∈ae (b.v.getD i v_),0<=x/\x<g)/\(b.v.getD i v_).args.length<=6
 f: ∀x∈d6 b,0<=x/\x<g
 asc:Asc o
 mem: ∀x∈o,0<=x/\x<g
theorem RpO.lst{b:BlkT}{o:List Int}{g:Int}(h:RpO b o g):Lst o (oS o):=⟨h.asc,fun x=>⟨fun E=>⟨(h.mem x E).1,by have:=(h.mem x E).1;unfold oS;rwa [show((x.toNat:Nat):Int)=x by omega]⟩,fun E=>by have:=E.2;unfold oS at this;rwa [show((x.toNat:Nat):Int)=x by omega]at this⟩⟩
def rpS(b:BlkT)(o:List Int)(i:Nat):Nat->Prop:=tr (b.v.drop i) (endS b (oS o))
theorem rp_lt{b:BlkT}{o:List Int}{g:Int}(h:RpO b o g){i r:Nat}(N:rpS b o i r):(r:Int)<g:=by
 have U: ∀(l:List VInT),(∀w∈l,w∈b.v)->∀r,tr l (endS b (oS o)) r->(r:Int)<g:=by
  intro l;induction l with
  |nil=>
   intro _ r N
   rcases N with E|E
   ·exact(h.mem _ E).2
   exact(h.f _ E).2
  |cons w l ih=>
   intro T r N
   rcases N with N|N
   ·obtain⟨i,hi,Z⟩:=a0t.1 (T w (a0n ..));have:=(h.v i hi).1;rw[a02,a06 hi,a0I,Z]at this;exact(this _ N).2
   exact ih (fun x hx=>T x (a0f _ hx)) r N.1
 exact U _ (fun w T=>a2o T) r N
theorem rp_start{b:BlkT}{o:List Int}{g:Int}(h:RpO b o g):Lst (cU o (d6 b)) (rpS b o b.v.length):=by have E:=Lst.addL h.lst (fun x N=>(h.f x N).1);refine⟨E.asc,fun x=>?_⟩;rw[E.mem];unfold rpS;rw[List.drop_length];exact Iff.rfl
theorem rp_step{b:BlkT}{o l:List Int}{g:Int}{i:Nat}(h:RpO b o g)(hi:i<b.v.length)(U:Lst l (rpS b o (i+1))):Lst (cU (gT l (ae (b.v.getD i v_))) (aF (b.v.getD i v_))) (rpS b o i):=by
 have Z:=h.v i hi;have T:=Lst.addL (l:=aF (b.v.getD i v_)) (Lst.minus (w:=ae (b.v.getD i v_)) U) fun x hx=>(Z.1 x hx).1
 refine⟨T.asc,fun x=>?_⟩;rw[T.mem];unfold rpS;rw[tr_drop hi];constructor
 ·rintro⟨N,E|E⟩
  ·exact⟨N,.inr E⟩
  exact⟨N,.inl E⟩
 rintro⟨N,E|E⟩
 ·exact⟨N,.inr E⟩
 exact⟨N,.inl E⟩
structure RpF(b:BlkT)(o:List Int)(l:List (List Int)):Prop where
 len:l.length=b.v.length+1
 pt: ∀i,i<=b.v.length->Lst (l.getD i v_) (rpS b o i)
theorem rset{b:BlkT}{o:List Int}{i:Nat}{l:List (List Int)}{x:List Int}(U:l.length=b.v.length+1)(h: ∀j,i<j->j<=b.v.length->Lst (l.getD j v_) (rpS b o j))(hi:i<=b.v.length)(T:Lst x (rpS b o i)): ∀j,i<=j->j<=b.v.length->Lst ((l.set i x).getD j v_) (rpS b o j):=fun j N E=>by
 rw[cz];split
 ·rename_i e;obtain⟨rfl,_⟩:=e;exact T
 rename_i e;exact h j M E
theorem end_len{b:BlkT}:(d6 b).length<=1:=by unfold d6;split<;>simp
theorem rpoints_c{ar:Option Addr}{aA:Nat}(b:BlkT){a6:Option Addr}{ck:Nat}(o:List Int)(hs:HS (.of H []) F H [] R)(a_:SR F (sL ar b.v.length aA) b.v)(hM:in64 b.f)(hO:in64 b.r)(hP:in64 b.t)(hQ:in64 b.e)(ho:SR F (sL a6 o.length ck) o)(hT:TB 37 tabC F)(hp: ∃g,RpO b o g):kKt ex 97 [(aG [(sL ar b.v.length aA),(iI b.f),(iI b.r),(iI b.t),(iI b.e)]),(sL a6 o.length ck)] H fun v H'=> ∃(al:Option Addr) (kl:Nat) (l:List (List Int)) (p:Fp) (F':Fz),Fz.le F F'/\HS (.of H []) F' H' [p] R/\v=sL al l.length kl/\OS F' (sL al l.length kl) l p/\(RpF b o l):=by
 obtain⟨g,hp⟩:=hp;have k3:=hp.len;have hg:=hp.gb;have k7:=Lst.len hp.lst hg.1 (fun r h=>(hp.mem _ h).2);have k5:=end_len (b:=b);have k9:(List.replicate (b.v.length+1) ([]:List Int)).length=b.v.length+1:=a0O;refine aC Tryz.func97 V V (am 1 V (ab (bd (aR hs V V) V V ?_)));rintro _ H2 _ ⟨b1,rfl,et,_⟩;refine za (sL none 0 0) (ah 2 V (ab (aY 4 0 7 10 [] [(10,(iI ((b.v.length:Int)+1)))] (Hr_ 1 0 (Ha_ (vi (n:=(b.v.length:Int)+1)) Hn_)) et V V fun _=>bd (cQ ([]:(List Int)) et V V V V V V V V V ⟨none,0,V,SR.nil⟩ M M) V V ?_)));rintro _ H5 p4 ⟨a4,k4,rfl,a1,b6,_⟩;have a1:OS F (sL a4 (List.replicate (b.v.length+1) ([]:(List Int))).length k4) (List.replicate (b.v.length+1) ([]:(List Int))) p4:=a1;refine za (sL a4 (List.replicate (b.v.length+1) ([]:(List Int))).length k4) (ah 2 V (aL V (eO 6 12 17 [] [(12,(sL a4 (List.replicate (b.v.length+1) ([]:(List Int))).length k4)),(15,(iI (b.v.length:Int))),(16,(sL a6 o.length ck)),(17,(aG [(sL ar b.v.length aA),(iI b.f),(iI b.r),(iI b.t),(iI b.e)]))] (Hr_ 2 0 (Hr_ 5 0 Hn_)) b6 V V fun _=>ba (W:=[]) (aO V V V) V V V (ma.rend_c ex b (HS.call b6.log0) a_ M M M M hT) (⟨.inl V,.inr trivial,.inr trivial,.inr a0k,q_⟩) ?_)));rintro _ H7 ⟨it,i3,r7,p7,F7,bz,ay,rfl,f0,rfl⟩;refine⟨Wr.did ay.log,fun hb e8=>?_⟩;replace ay:=HS.back b6.log0 V ay;replace ay:=HS.lg ay b6 e8;generalize ({H7 with log:=hb}:Heap)=ik at ay⊢;obtain⟨F8,b2,co,g9,i2⟩:=OS.frz f0 ay (i:=2) V;replace hT:=(hT.mono bz).mono b2;replace ho:=(ho.mono bz).mono b2;refine ba (W:=[]) (aO V V V) V V V (ma.fv ex o (d6 b) (HS.call co.log0) ho g9 hT M) (⟨.inl V,.inl V,.inl V,.inr trivial,.inr a0k,q_⟩) ?_;rintro _ H9 ⟨g6,ha,r9,F9,b5,aq,rfl,f1,rfl⟩;refine⟨Wr.did aq.log,fun he fd=>?_⟩;replace aq:=HS.back co.log0 V aq;replace aq:=HS.lg aq co fd;generalize ({H9 with log:=he}:Heap)=il at aq⊢;replace a1:=((a1.mono bz).mono b2).mono b5;refine zy (List Int) (b.v.length:Int) (OS.sv a1 aq.log0 (i:=1) V) (gP (id:= .x (p4.map Prod.fst)) (dm (α:=(List Int)) (j:=b.v.length) (off:=0) (q:=1) (cU o (d6 b)) a1 aq.log0 V V V V V V V V (bg (x:=v_) M) V (by rintro cs ⟨_,_,rfl,_⟩;exact⟨a0a V,⟨g6,ha,V,f1⟩⟩)) V (by rintro _ _ ez ⟨a8,_,hwr⟩;exact dC V V (Wr.did hwr)) (kb V) ?_);rintro _ go ez ⟨a8,ax,_⟩ f4 dd;replace ax:=HS.lg ax aq dd;generalize ({go with log:=f4}:Heap)=hA at ax⊢;have hv:=OS.len' a8;refine bC 3 V (aU 2 21 24 [6] [(6,(iI ((b.v.length:Int)-1)))] (Hr_ 1 0 (Ha_ (vi (n:=(b.v.length:Int)-1)) Hn_)) ax V V fun _=>ak (fun(mm:Nat) f H'=> ∃(pl:List (List Int)) (iz:Int) (E:Option Addr) (N:Nat) (ag:Fp) (F':Fz),Fz.le F9 F'/\HS (Base.of H []) F' H' [(fP b1 [(sL ar b.v.length aA),(iI b.f),(iI b.r),(iI b.t),(iI b.e)]),ag,[]] R/\OS F' (sL E pl.length N) pl ag/\aB f [(2,(pT b1 0)),(5,(sL E pl.length N)),(6,(iI iz))]/\mm=(iz+1).toNat/\(pl.length=b.v.length+1)/\(-1<=iz/\iz<(b.v.length:Int))/\(∀j,(iz+1).toNat<=j->j<=b.v.length->Lst (pl.getD j v_) (rpS b o j))) _ ⟨(List.replicate (b.v.length+1) ([]:(List Int))).set b.v.length (cU o (d6 b)),(b.v.length:Int)-1,a4,k4,ez,_,fR,ax,(OS.norm a8),(agC V (agC (show Value.slice a4 (List.replicate (b.v.length+1) ([]:(List Int))).length k4=Value.slice a4 ((List.replicate (b.v.length+1) ([]:(List Int))).set b.v.length (cU o (d6 b))).length k4 by rw[OS.len' a8]) ⟨V,trivial⟩)),V,o_,M,(fun j h1 h2=>by(rw[show j=b.v.length by omega,cz,if_pos ⟨V,by simp⟩];exact rp_start hp))⟩ ?_);rintro h3 i1 ih ⟨pl,iz,E,N,ag,h4,a2,Z,U,ci,rfl,e2,e3,e5⟩ f2;refine au _ ci (fun _=>?_);clear ci;replace hT:=(hT.mono b5).mono a2;replace a_:=(((a_.mono bz).mono b2).mono b5).mono a2;refine am 2 V (wT 1 [] 25 26 [] [(26,(.bool (decide ((0:Int)<=iz))))] V fun _=>zd 3 5 (fun g7=>?_) fun g7=>?_)
 ·have c0:iz.toNat<b.v.length:=M
  have hy:=hp.v iz.toNat c0;have hW:(b.v.getD iz.toNat v_).args.length<=6:=hy.2.2;have k8:=Lst.len (e5 (iz+1).toNat (a0d _) M) hg.1 (fun r h=>rp_lt hp h);have la:=dI (v:=(b.v.getD iz.toNat v_));have hV:=eF (v:=(b.v.getD iz.toNat v_));have k6:(gT (pl.getD (iz+1).toNat v_) (ae (b.v.getD iz.toNat v_))).length<=(pl.getD (iz+1).toNat v_).length:=a1a _ _;refine aL V ?_;obtain⟨b9,c5⟩:=Sv.view (OS.sv U Z (i:=1) V);have c8:=fL (c5 (iz+1).toNat);obtain⟨cc,c6⟩:=Sv.view (SR.sv a_ Z);obtain⟨hh,hj,hk,hl,hm,d2⟩:=VInT.fx (c6 iz.toNat);refine eO 12 29 40 [] [(29,(sL E pl.length N)),(30,(iI iz)),(35,(sL (cA (b9 (iz+1).toNat) 0) (pl.getD (iz+1).toNat v_).length (cK (b9 (iz+1).toNat) 0))),(40,(aG [(iI (b.v.getD iz.toNat v_).i.op),(iI (b.v.getD iz.toNat v_).i.a),(iI (b.v.getD iz.toNat v_).i.b),(iI (b.v.getD iz.toNat v_).i.c),(iI (b.v.getD iz.toNat v_).i.n),(sL (cA (cc iz.toNat) 5) (b.v.getD iz.toNat v_).args.length (cK (cc iz.toNat) 5))]))] (Ha_ (vi (n:=iz+1)) (Ha_ (Sv.ix (j:=iz+1) (OS.sv U Z (i:=1) V)) (Hl_ 6 (ql 22 0 (hc0 (vL (c5 (iz+1).toNat))) V V) (Hr_ 8 0 (Ha_ (Sv.ix (j:=iz) (SR.sv a_ Z)) (Hl_ 11 (qn 88 0 6 (hc0 (VInT.vw (c6 iz.toNat))) V V V V) Hn_)))))) Z V V fun _=>ba (W:=[]) (aO V V V) V V V (ma.kN ex (b.v.getD iz.toNat v_) (HS.call Z.log0) M M M M M d2 hT) q_ ?_
  rintro _ g1 ⟨hI,hX,jq,i4,h5,av,an,rfl,dv,rfl⟩;refine⟨Wr.did an.log,fun f5 dk=>?_⟩;replace an:=HS.back Z.log0 V an;replace an:=HS.lg an Z dk;generalize ({g1 with log:=f5}:Heap)=hB at an⊢;obtain⟨h6,aw,b3,fi,hR⟩:=OS.frz dv an (i:=3) V;replace hT:=(hT.mono av).mono aw;replace c8:=(c8.mono av).mono aw;refine ba (W:=[]) (aO V V V) V V V (ma.minus_c ex (pl.getD (iz+1).toNat v_) (ae (b.v.getD iz.toNat v_)) (HS.call b3.log0) c8 fi hT M) (kb V) ?_;rintro _ g2 ⟨hJ,hY,jw,jb,h7,a3,T,rfl,bb,rfl⟩;refine⟨Wr.did T.log,fun f6 dl=>?_⟩;replace T:=HS.back b3.log0 V T;replace T:=HS.lg T b3 dl;generalize ({g2 with log:=f6}:Heap)=hC at T⊢;replace hT:=hT.mono a3;replace a_:=((a_.mono av).mono aw).mono a3;refine zp 0 (bE (v:=(sL ar b.v.length aA)) (id:= .l b1) (gB (i:=0) V V (HS.hc T.log0 (i:=0) V) V V) V V (jj V) (⟨.inl V,.inr a0k,.inr a0k,q_⟩) ?_);obtain⟨cg,c7⟩:=Sv.view (SR.sv a_ T);obtain⟨hn,hq,hr,ht,hu,ef⟩:=VInT.fx (c7 iz.toNat);refine eO 3 45 47 [] [(47,(aG [(iI (b.v.getD iz.toNat v_).i.op),(iI (b.v.getD iz.toNat v_).i.a),(iI (b.v.getD iz.toNat v_).i.b),(iI (b.v.getD iz.toNat v_).i.c),(iI (b.v.getD iz.toNat v_).i.n),(sL (cA (cg iz.toNat) 5) (b.v.getD iz.toNat v_).args.length (cK (cg iz.toNat) 5))]))] (Ha_ (Sv.ix (j:=iz) (SR.sv a_ T)) (Hl_ 18 (qn 88 0 6 (hc0 (VInT.vw (c7 iz.toNat))) V V V V) Hn_)) T V V fun _=>ba (W:=[]) (aO V V V) V V V (ma.nt ex (b.v.getD iz.toNat v_) (HS.call T.log0) M M M M M ef hT M) (kb V) ?_
  rintro _ g3 ⟨hK,h0,ka,h8,a5,ap,rfl,bk,rfl⟩;refine⟨Wr.did ap.log,fun f7 dn=>?_⟩;replace ap:=HS.back T.log0 V ap;replace ap:=HS.lg ap T dn;generalize ({g3 with log:=f7}:Heap)=hD at ap⊢;replace bb:=bb.mono a5;obtain⟨h9,a7,b4,fj,hS⟩:=OS.frz bb ap (i:=4) V;replace hT:=(hT.mono a5).mono a7;replace bk:=bk.mono a7;refine ba (W:=[]) (aO V V V) V V V (ma.fv ex (gT (pl.getD (iz+1).toNat v_) (ae (b.v.getD iz.toNat v_))) (aF (b.v.getD iz.toNat v_)) (HS.call b4.log0) fj bk hT M) (kb V) ?_;rintro _ g4 ⟨e1,f3,kc,ib,ch,aa,rfl,d1,rfl⟩;refine⟨Wr.did aa.log,fun f8 ds=>?_⟩;replace aa:=HS.back b4.log0 V aa;replace aa:=HS.lg aa b4 ds;generalize ({g4 with log:=f8}:Heap)=hE at aa⊢;replace U:=(((((U.mono av).mono aw).mono a3).mono a5).mono a7).mono ch;refine zy (List Int) iz (OS.sv U aa.log0 (i:=1) V) (gP (id:= .x (ag.map Prod.fst)) (dm (α:=(List Int)) (j:=iz.toNat) (off:=0) (q:=1) (cU (gT (pl.getD (iz+1).toNat v_) (ae (b.v.getD iz.toNat v_))) (aF (b.v.getD iz.toNat v_))) U aa.log0 V V V V V V V V (bg (x:=v_) M) V (by rintro cs ⟨_,_,rfl,_⟩;exact⟨a0a V,⟨e1,f3,V,d1⟩⟩)) V (by rintro _ _ e0 ⟨a9,_,hwr⟩;exact dC V V (Wr.did hwr)) (kb V) ?_);rintro _ g5 e0 ⟨a9,bl,_⟩ f9 dt;replace bl:=HS.lg bl aa dt;generalize ({g5 with log:=f9}:Heap)=hF at bl⊢;have hw:=OS.len' a9;refine bC 2 V (wU 1 [] 27 28 [6] [(6,(iI (iz-1)))] (vi (n:=iz-1)) V fun _=>?_);refine f2 _ _ _ ?_ ⟨pl.set iz.toNat (cU (gT (pl.getD (iz+1).toNat v_) (ae (b.v.getD iz.toNat v_))) (aF (b.v.getD iz.toNat v_))),iz-1,E,N,e0,_,(fT (fT (fT (fT (fT (fT (a2) av) aw) a3) a5) a7) ch),(HS.sub bl (a03 _ _)),(OS.norm a9),(agC V (agC (show Value.slice E pl.length N=Value.slice E (pl.set iz.toNat (cU (gT (pl.getD (iz+1).toNat v_) (ae (b.v.getD iz.toNat v_))) (aF (b.v.getD iz.toNat v_)))).length N by rw[OS.len' a9]) ⟨V,trivial⟩)),V,(by rw[a0h];exact e2),M,(by rw[show(iz-1+1).toNat=iz.toNat by omega];exact rset e2 (fun j h1 h2=>e5 j M h2) M (rp_step hp c0 (by rw[show iz.toNat+1=(iz+1).toNat by omega];exact e5 _ (a0d _) M)))⟩;omega
 refine wT 1 [] 4 4 [51] [(4,(sL E pl.length N))] V fun _=>aj ⟨.inr V,_,V,E,N,pl,ag,_,(fT (fT (fT (bz) b2) b5) a2),(HS.only Z (i:=1) V),V,U,(⟨e2,fun i hi=>e5 i M hi⟩)⟩
def acV(v:VInT)(l:List Int):List Int:=if v.i.op=6 then cU (gT l [v.i.a]) (aF v) else []
theorem oe{U:Option Addr}{Z:Nat}(l:List (List Int))(k:Int)(hs:HS (.of H []) F H [] R)(hl:SR F (sL U l.length Z) l)(hk:in64 k)(hT:TB 37 tabC F)(hk:0<=k/\k+1<(l.length:Int)/\l.length<=1073741825):kKt ex 62 [(sL U l.length Z),(iI k)] H fun v H'=> ∃(ar:Option Addr) (kr:Nat) (r:List Int),H'=H/\v=sL ar r.length kr/\SR F (sL ar r.length kr) r/\r=l.getD (k+1).toNat v_:=by refine aC Tryz.func62 V V (am 1 V (wT 2 [] 4 4 [] [(4,(sL none 0 0))] V fun _=>?_));obtain⟨E,N⟩:=Sv.view (SR.sv hl hs);have T:=fL (N (k+1).toNat);refine wrp 1 4 9 [] [(4,(sL (cA (E (k+1).toNat) 0) (l.getD (k+1).toNat v_).length (cK (E (k+1).toNat) 0)))] (Ha_ (vi (n:=k+1)) (Ha_ (Sv.ix (j:=k+1) (SR.sv hl hs)) (Hl_ 4 (ql 22 0 (vL (N (k+1).toNat)) V V) Hn_))) (by kernel_rfl) V fun _=>aj ⟨.inr V,_,V,(cA (E (k+1).toNat) 0),(cK (E (k+1).toNat) 0),(l.getD (k+1).toNat v_),V,V,T,m_⟩
theorem acall_c{U:Option Addr}{ag:Nat}(iv:VInT){ai:Option Addr}{al:Nat}(l:List Int)(hs:HS (.of H []) F H [] R)(b7:in64 iv.i.op)(b8:in64 iv.i.a)(b9:in64 iv.i.b)(cc:in64 iv.i.c)(cg:in64 iv.i.n)(a_:SR F (sL U iv.args.length ag) iv.args)(hl:SR F (sL ai l.length al) l)(hT:TB 37 tabC F)(e8:l.length<=1048576)(el:iv.args.length<=1048576):kKt ex 65 [(aG [(iI iv.i.op),(iI iv.i.a),(iI iv.i.b),(iI iv.i.c),(iI iv.i.n),(sL U iv.args.length ag)]),(sL ai l.length al)] H fun v H'=> ∃(ar:Option Addr) (kr:Nat) (r:List Int) (F':Fz),Fz.le F F'/\HS (.of H []) F' H' [] R/\v=sL ar r.length kr/\SR F' (sL ar r.length kr) r/\r=acV iv l:=by
 refine aC Tryz.func65 V V (am 1 V (ab (bd (aR hs V V) V V ?_)));rintro _ H2 _ ⟨b1,rfl,ax,_⟩;refine za (sL none 0 0) (ah 3 V (aU 1 5 8 [] [(8,(.bool (iv.i.op !=6)))] (Hr_ 2 0 Hn_) ax V V fun _=>zI 1 2 (fun c4=>?_) fun c4=>?_))
 ·have hq:=c4;refine wT 1 [] 4 4 [] [(4,(sL none 0 0))] V fun _=>aj ⟨.inr V,_,V,none,0,([]:List Int),_,fR,(HS.forget ax),V,(SR.nil:SR F (sL none 0 0) ([]:List Int)),(if_neg hq).symm⟩
 have hq:=c4;refine aL V (eO 4 9 12 [] [(9,(sL ai l.length al)),(12,(iI iv.i.a))] (Hr_ 3 0 Hn_) ax V V fun _=>zld ([iv.i.a]:List Int) ax V (RL.cs ⟨V,by omega⟩ RL.nl) V fun a7 k7 p7 dt b4 b6=>?_);obtain⟨F9,aw,aA,b5,dv⟩:=OS.frz b4 b6 (i:=1) V;replace hT:=hT.mono aw;replace hl:=hl.mono aw;refine ba (W:=[]) (aO V V V) V V V (ma.minus_c ex l ([iv.i.a]:List Int) (HS.call aA.log0) hl b5 hT (by(simp;omega))) (kb V) ?_;rintro _ bz ⟨c5,c9,d2,d1,dk,an,E,rfl,Z,rfl⟩;refine⟨Wr.did E.log,fun bb a2=>?_⟩;replace E:=HS.back aA.log0 V E;replace E:=HS.lg E aA a2;generalize ({bz with log:=bb}:Heap)=ch at E⊢;replace hT:=hT.mono an;replace a_:=(a_.mono aw).mono an;refine bE (v:=(aG [(iI iv.i.op),(iI iv.i.a),(iI iv.i.b),(iI iv.i.c),(iI iv.i.n),(sL U iv.args.length ag)])) (id:= .l b1) (mT (i:=0) V V V (HS.hc E.log0 (i:=0) V) V V V) V V (jj V) (⟨.inr a0k,q_⟩) (ba (W:=[]) (aO V V V) V V V (ma.nt ex iv (HS.call E.log0) M M M M M a_ hT M) (kb V) ?_);rintro _ b2 ⟨c6,dd,ef,dl,ap,N,rfl,aa,rfl⟩;refine⟨Wr.did N.log,fun bk a3=>?_⟩;replace N:=HS.back E.log0 V N;replace N:=HS.lg N E a3;generalize ({b2 with log:=bk}:Heap)=ci at N⊢;replace Z:=Z.mono ap;obtain⟨dn,aq,av,a9,c8⟩:=OS.frz Z N (i:=2) V;replace hT:=(hT.mono ap).mono aq;replace aa:=aa.mono aq;refine ba (W:=[]) (aO V V V) V V V (ma.fv ex (gT l ([iv.i.a]:List Int)) (aF iv) (HS.call av.log0) a9 aa hT (by have h1:(gT l [iv.i.a]).length<=l.length:=a1a _ _;have h2:=eF (v:=iv);omega)) (kb V) ?_;rintro _ b3 ⟨ay,a1,et,ds,a8,T,rfl,a5,rfl⟩;refine⟨Wr.did T.log,fun bl a4=>?_⟩;replace T:=HS.back av.log0 V T;replace T:=HS.lg T av a4;generalize ({b3 with log:=bl}:Heap)=co at T⊢;refine fa (sL ay (cU (gT l ([iv.i.a]:List Int)) (aF iv)).length a1) V V V (bC 1 V (aj ⟨.inr V,_,V,ay,a1,cU (gT l ([iv.i.a]:List Int)) (aF iv),_,(fT (fT (fT (fT (aw) an) ap) aq) a8),(HS.forget T),V,a5,(if_pos hq).symm⟩))
end mh
open mh
namespace mi
variable (ex:FuncId) {F:Fz} {H:Heap} {R:List Fp}
abbrev dp(l:List (List Int))(b:Nat):List Int:=l.getD b v_
structure RSn(c:VFnT)(I O:List (List Int)):Prop where
 li:I.length=c.u.length
 lo:O.length=c.u.length
 ai: ∀b,Asc (dp I b)
 ao: ∀b,Asc (dp O b)
 si: ∀b,∀x∈dp I b,0<=x/\LIn c b x.toNat
 so: ∀b,∀x∈dp O b,0<=x/\mW c b x.toNat
 mo: ∀b,b<c.u.length->∀r,oS (dp O b) r->outS c (fun t r=>oS (dp I t) r) b r
 mi: ∀b,b<c.u.length->∀r,oS (dp I b) r->inS (bB c b) (oS (dp O b)) r
theorem rsn_zero{c:VFnT}{n:Nat}(h:n=c.u.length):RSn c (List.replicate n []) (List.replicate n []):=by
 have e: ∀b,dp (List.replicate n ([]:List Int)) b=[]:=fun b=>by unfold dp;rw[a02,a1d];split<;>rfl
 have N: ∀b r,¬oS (dp (List.replicate n ([]:List Int)) b) r:=fun b r h=>by rw[e]at h;cases h
 exact⟨by simp[h],by simp[h],fun b=>by rw[e];exact List.Pairwise.nil,fun b=>by rw[e];exact List.Pairwise.nil,fun b x E=>by(rw[e]at E;cases E),fun b x E=>by(rw[e]at E;cases E),fun b _ r h=>absurd h (N b r),fun b _ r h=>absurd h (N b r)⟩
theorem cR{l:List (List Int)}{b E:Nat}{x:List Int}(N:b<l.length):dp (l.set b x) E=if b=E then x else dp l E:=by
 unfold dp;rw[cz];by_cases h:b=E
 ·subst h;rw[if_pos ⟨V,N⟩,if_pos rfl]
 rw[if_neg (fun e=>h e.1),if_neg h]
theorem nV: ∀{b a:List Int},Asc a->Asc b->(∀x∈a,x∈b)->a.Sublist b
 | [],[],_,_,_=>List.Sublist.refl _
 | [],x::a,_,_,h=>absurd (h x (a0n ..)) a0k
 |y::b,[],_,_,_=>List.nil_sublist _
 |y::b,x::a,ha,hb,h=>by
  have N:=List.pairwise_cons.1 ha;have T:=List.pairwise_cons.1 hb;by_cases e:x=y
  ·subst e;refine List.Sublist.cons_cons _ (nV N.2 T.2 fun z U=>?_);rcases a0v.1 (h z (a0f _ U)) with e|e
   ·subst e;have:=N.1 z U;omega
   exact e
  have Z:x∈b:=by
   rcases a0v.1 (h x (a0n ..)) with e'|e'
   ·exact absurd e' e
   exact e'
  have aa:=T.1 x Z;refine List.Sublist.cons _ (nV ha T.2 fun z U=>?_);rcases a0v.1 (h z U) with e'|e'
  ·rcases a0v.1 U with E|E
   ·exact absurd (E.symm.trans e') e
   have:=N.1 z E;omega
  exact e'
theorem mR{a b:List Int}(E:Asc a)(N:Asc b)(h: ∀x∈a,x∈b)(T:b.length=a.length):a=b:=(nV E N h).eq_of_length T.symm
theorem lE{a b:List Int}(E:Asc a)(N:Asc b)(h: ∀x∈a,x∈b):a.length<=b.length:=(nV E N h).length_le
theorem Lst.ext{l:List Int}{S S':Nat->Prop}(h:Lst l S)(hs: ∀r,S r↔S' r):Lst l S':=⟨h.asc,fun x=>by rw[h.mem,hs]⟩
def uS(c:VFnT)(I:List (List Int))(b q r:Nat):Prop:= ∃t∈(br (bB c b)).take q,oS (dp I t.toNat) r
theorem uS_zero{c:VFnT}{I:List (List Int)}{b:Nat}:Lst [] (uS c I b 0):=Lst.nil fun r ⟨t,h,_⟩=>by simp at h
theorem RSn.lstI{c:VFnT}{I O:List (List Int)}(h:RSn c I O)(b:Nat):Lst (dp I b) (oS (dp I b)):=⟨h.ai b,fun x=>⟨fun N=>⟨(h.si b x N).1,by unfold oS;rwa [a0Y (h.si b x N).1]⟩,fun N=>by have E:=N.2;unfold oS at E;rwa [a0Y N.1]at E⟩⟩
theorem uS_step{c:VFnT}{I O:List (List Int)}{b q:Nat}{o:List Int}(hs:RSn c I O)(T:q<(br (bB c b)).length)(h:Lst o (uS c I b q)):Lst (cU o (dp I ((br (bB c b)).getD q 0).toNat)) (uS c I b (q+1)):=by
 refine Lst.ext (Lst.union h (hs.lstI _)) fun r=>?_
 unfold uS;rw[aX T (d:=0)];constructor
 ·rintro(⟨t,E,N⟩|E)
  ·exact⟨t,a07.2 (.inl E),N⟩
  exact⟨_,a07.2 (.inr (a08.2 V)),E⟩
 rintro⟨t,E,N⟩;rcases a07.1 E with E|E
 ·exact .inl ⟨t,E,N⟩
 rw[a08]at E;subst E;exact .inr N
theorem uS_all{c:VFnT}{I:List (List Int)}{b q r:Nat}(E:(br (bB c b)).length<=q):uS c I b q r↔outS c (fun t r=>oS (dp I t) r) b r:=by unfold uS outS;rw[a0i E]
theorem uS_in{c:VFnT}{I O:List (List Int)}{b q r:Nat}(hs:RSn c I O)(h:uS c I b q r):mW c b r:=by obtain⟨t,E,N⟩:=h;refine⟨t,a1k E,?_⟩;have:=hs.si _ _ N;exact this.2
theorem uS_lt{c:VFnT}(v:VF c){I O:List (List Int)}{b q r:Nat}(hs:RSn c I O)(h:uS c I b q r):(r:Int)<c.r:=jf v (uS_in hs h)
theorem rpo_of{c:VFnT}(v:VF c){I O:List (List Int)}{b q:Nat}{o:List Int}(hs:RSn c I O)(U:b<c.u.length)(hl:(bB c b).v.length<=1073741824)(Z:Lst o (uS c I b q)):RpO (bB c b) o c.r:=by
 refine⟨v.r,hl,fun i hi=>bF (v.v b U i hi),fun x T=>?_,Z.asc,fun x T=>?_⟩
 ·unfold d6 at T;split at T
  ·rename_i hf;rw[a08]at T;have:=v.f b U hf;omega
  cases T
 have E:=(Z.mem x).1 T;have N:=uS_lt v hs E.2;omega
theorem rpo_out{c:VFnT}(v:VF c){b:Nat}{o:List Int}(U:b<c.u.length)(hl:(bB c b).v.length<=1073741824)(Z:Lst o (mW c b)):RpO (bB c b) o c.r:=by
 refine⟨v.r,hl,fun i hi=>bF (v.v b U i hi),fun x T=>?_,Z.asc,fun x T=>?_⟩
 ·unfold d6 at T;split at T
  ·rename_i hf;rw[a08]at T;have:=v.f b U hf;omega
  cases T
 have E:=(Z.mem x).1 T;have N:=jf v E.2;omega
theorem kW{l:List Int}{S:Nat->Prop}(h:Lst l S)(r:Nat):oS l r↔S r:=by unfold oS;rw[h.mem];exact⟨fun h=>by simpa using h.2,fun h=>⟨by omega,by simpa using h⟩⟩
structure Stp(c:VFnT)(I O:List (List Int))(b:Nat)(o i:List Int):Prop where
 lo:Lst o (outS c (fun t r=>oS (dp I t) r) b)
 li:Lst i (inS (bB c b) (oS o))
theorem stp_of{c:VFnT}{I O:List (List Int)}{b q:Nat}{o:List Int}{l:List (List Int)}(T:(br (bB c b)).length<=q)(N:Lst o (uS c I b q))(E:RpF (bB c b) o l):Stp c I O b o (dp l 0):=
 ⟨Lst.ext N fun r=>uS_all T,Lst.ext (E.pt 0 (a0D _)) fun r=>Iff.rfl⟩
theorem stp_sub{c:VFnT}{I O:List (List Int)}{b:Nat}{o i:List Int}(h:RSn c I O)(U:b<c.u.length)(s:Stp c I O b o i):(∀x∈dp O b,x∈o)/\(∀x∈dp I b,x∈i):=by
 have N: ∀r,oS (dp O b) r->oS o r:=fun r Z=>(kW s.lo r).2 (h.mo b U r Z)
 refine⟨fun x T=>?_,fun x T=>?_⟩
 ·have E:=(h.so b x T).1;have:=N x.toNat (by unfold oS;rwa [a0Y E]);unfold oS at this;rwa [a0Y E]at this
 have E:=(h.si b x T).1;have:=h.mi b U x.toNat (by unfold oS;rwa [a0Y E]);exact(s.li.mem x).2 ⟨E,fG N _ this⟩
theorem rsn_set{c:VFnT}{I O:List (List Int)}{b:Nat}{o i:List Int}(h:RSn c I O)(hb:b<c.u.length)(s:Stp c I O b o i):RSn c (I.set b i) (O.set b o):=by
 obtain⟨so,si⟩:=stp_sub h hb s;have ag:b<I.length:=by rw[h.li];exact hb
 have al:b<O.length:=by rw[h.lo];exact hb
 have mI: ∀t r,oS (dp I t) r->oS (dp (I.set b i) t) r:=fun t r Z=>by
  rw[cR ag];split
  ·rename_i e;subst e;exact si _ Z
  exact Z
 refine⟨by rw[a0h];exact h.li,by rw[a0h];exact h.lo,fun b'=>?_,fun b'=>?_,fun b' x hx=>?_,fun b' x hx=>?_,fun b' an r Z=>?_,fun b' an r Z=>?_⟩
 ·rw[cR ag];split
  ·exact s.li.asc
  exact h.ai b'
 ·rw[cR al];split
  ·exact s.lo.asc
  exact h.ao b'
 ·rw[cR ag]at hx;split at hx
  ·rename_i e;subst e;obtain⟨E,a_⟩:=(s.li.mem x).1 hx;refine⟨E,oq c b hb _ (fG (fun r Z=>?_) _ a_)⟩;obtain⟨t,N,T⟩:=(kW s.lo r).1 Z;have U:=h.si _ _ T;exact⟨t,N,U.2⟩
  exact h.si b' x hx
 ·rw[cR al]at hx;split at hx
  ·rename_i e;subst e;obtain⟨E,t,N,T⟩:=(s.lo.mem x).1 hx;have U:=h.si _ _ T;exact⟨E,t,N,U.2⟩
  exact h.so b' x hx
 ·rw[cR al]at Z;split at Z
  ·rename_i e;subst e;exact iH (fun t r=>mI t r) _ _ ((kW s.lo r).1 Z)
  exact iH (fun t r=>mI t r) _ _ (h.mo b' an r Z)
 rw[cR ag]at Z;rw[cR al];split at Z
 ·rename_i e;subst e;rw[if_pos rfl];exact(kW s.li r).1 Z
 rename_i e;rw[if_neg e];exact h.mi b' an r Z
def cntL(I:List (List Int)):Nat:=(I.map List.length).sum
theorem cntL_set{I:List (List Int)}{b:Nat}(E:b<I.length)(s:List Int):cntL (I.set b s)+(dp I b).length=cntL I+s.length:=by unfold cntL dp;rw[List.map_set];have:=sum_set (I.map List.length) b s.length (by rw[a1u];exact E);rw[a02,a14,a06 E]at this;rw[a02,a06 E];exact this
theorem cntL_le{l:List (List Int)}{B:Nat}(h: ∀b,(dp l b).length<=B):cntL l<=l.length *B:=by
 unfold cntL;have T: ∀(l:List (List Int)),(∀s∈l,s.length<=B)->(l.map List.length).sum<=l.length *B:=by
  intro l;induction l with
  |nil=>intro _;simp
  |cons s l ih=>
   intro h
   have E:=ih fun x Z=>h x (a0f _ Z)
   have N:=h s (a0n ..)
   rw[a1K,a29,a05,a1t];omega
 refine T l fun s hs=>?_
 obtain⟨b,U,rfl⟩:=a0t.1 hs;have:=h b;unfold dp at this;rwa [a02,a06 U]at this
def cnt2(I O:List (List Int)):Nat:=cntL I+cntL O
theorem rsn_len{c:VFnT}(v:VF c){I O:List (List Int)}(h:RSn c I O)(b:Nat):((dp I b).length:Int)<=c.r/\((dp O b).length:Int)<=c.r:=by
 have U:=v.r;constructor
 ·have:=lF (m:=c.r) 0 U.1 (h.ai b) fun x T=>by obtain⟨E,N⟩:=h.si b x T;have:=lin_lt v N;exact⟨E,by omega⟩
  omega
 have:=lF (m:=c.r) 0 U.1 (h.ao b) fun x T=>by obtain⟨E,N⟩:=h.so b x T;have:=jf v N;exact⟨E,by omega⟩
 omega
theorem cnt2_le{c:VFnT}(v:VF c){I O:List (List Int)}(h:RSn c I O):cnt2 I O<=c.u.length *6000:=by
 have T:=v.r;have E:=cntL_le (l:=I) (B:=3000) fun b=>by have:=(rsn_len v h b).1;omega
 have N:=cntL_le (l:=O) (B:=3000) fun b=>by have:=(rsn_len v h b).2;omega
 rw[h.li]at E;rw[h.lo]at N;unfold cnt2;omega
def CL(c:VFnT)(I O:List (List Int))(b:Nat):Prop:=(∀r,outS c (fun t r=>oS (dp I t) r) b r->oS (dp O b) r)/\∀r,inS (bB c b) (oS (dp O b)) r->oS (dp I b) r
theorem stp_same{c:VFnT}{I O:List (List Int)}{b:Nat}{o i:List Int}(h:RSn c I O)(hb:b<c.u.length)(s:Stp c I O b o i)(T:(o.length:Int)=((dp O b).length:Int))(U:(i.length:Int)=((dp I b).length:Int)):I.set b i=I/\O.set b o=O/\CL c I O b:=by
 obtain⟨so,si⟩:=stp_sub h hb s;have E:=mR (h.ao b) s.lo.asc so M;have N:=mR (h.ai b) s.li.asc si M;refine⟨by rw[←N];exact eQ _ _,by rw[←E];exact eQ _ _,fun r Z=>?_,fun r Z=>?_⟩
 ·rw[E];exact(kW s.lo r).2 Z
 rw[E]at Z;rw[N];exact(kW s.li r).2 Z
theorem stp_more{c:VFnT}{I O:List (List Int)}{b:Nat}{o i:List Int}(h:RSn c I O)(Z:b<c.u.length)(s:Stp c I O b o i):cnt2 I O<=cnt2 (I.set b i) (O.set b o)/\(((o.length:Int)≠((dp O b).length:Int)\/(i.length:Int)≠((dp I b).length:Int))->cnt2 I O<cnt2 (I.set b i) (O.set b o)):=by obtain⟨so,si⟩:=stp_sub h Z s;have E:=lE (h.ao b) s.lo.asc so;have N:=lE (h.ai b) s.li.asc si;have T:=cntL_set (I:=I) (b:=b) (by rw[h.li];exact Z) i;have U:=cntL_set (I:=O) (b:=b) (by rw[h.lo];exact Z) o;unfold cnt2;exact⟨by omega,fun h=>by omega⟩
theorem mv{c:VFnT}{I O E N:List (List Int)}{b:Nat}{o i:List Int}{m2 m':Bool}(h:RSn c I O)(hb:b<c.u.length)(s:Stp c I O b o i)(a_:m2=false->I=E/\O=N)(Z:m2=true->cnt2 E N<cnt2 I O)
  (e:m'=((m2||((o.length:Int) !=((O.getD b v_).length:Int)))||((i.length:Int) !=((I.getD b v_).length:Int)))):(m'=false->I.set b i=E/\O.set b o=N)/\(m'=true->cnt2 E N<cnt2 (I.set b i) (O.set b o))/\(m'=false->(m2=false->∀b':Nat,b<b'->b'<c.u.length->CL c I O b')->∀b':Nat,b<=b'->b'<c.u.length->CL c (I.set b i) (O.set b o) b'):=by
 have hm:=stp_more h hb s
 have al:m'=false->m2=false/\(o.length:Int)=((dp O b).length:Int)/\(i.length:Int)=((dp I b).length:Int):=fun hf=>by rw[e]at hf;simp only[a1l,bne_eq_false_iff_eq]at hf;exact⟨hf.1.1,hf.1.2,hf.2⟩
 refine⟨fun hf=>?_,fun ht=>?_,fun hf hc b' h2 h3=>?_⟩
 ·obtain⟨k1,k2,k3⟩:=al hf;obtain⟨T,U,_⟩:=stp_same h hb s k2 k3;rw[T,U];exact a_ k1
 ·rw[e]at ht;simp only[a0A,bne_iff_ne]at ht;rcases ht with(ht|ht)|ht
  ·have:=Z ht;omega
  ·have:=hm.2 (.inl ht);cases m2 with
   |false=>obtain⟨rfl,rfl⟩:=a_ V;exact this
   |true=>have:=Z V;omega
  have:=hm.2 (.inr ht);cases m2 with
  |false=>obtain⟨rfl,rfl⟩:=a_ V;exact this
  |true=>have:=Z V;omega
 obtain⟨k1,k2,k3⟩:=al hf
 obtain⟨T,U,e3⟩:=stp_same h hb s k2 k3
 rw[T,U]
 rcases a2a h2 with e'|e'
 ·subst e';exact e3
 exact hc k1 b' e' h3
theorem bkf_of{c:VFnT}{I O:List (List Int)}(h:RSn c I O)(hc: ∀b,b<c.u.length->CL c I O b):BkF c I O:=by
 have Z:Clo c (fun b r=>oS (dp I b) r):=fun b U r hr=>(hc b U).2 r (fG (fun q hq=>(hc b U).1 q hq) r hr)
 refine⟨h.li,h.lo,fun b U=>⟨h.ai b,fun x=>⟨h.si b x,fun hx=>?_⟩⟩,fun b U=>⟨h.ao b,fun x=>⟨h.so b x,fun hx=>?_⟩⟩⟩
 ·have:=hx.2 _ Z;unfold oS at this;rwa [a0Y hx.1]at this
 obtain⟨E,t,N,T⟩:=hx;have:=(hc b U).1 x.toNat ⟨t,N,T _ Z⟩;unfold oS at this;rwa [a0Y E]at this
theorem ptf_of{c:VFnT}{b:Nat}{o:List Int}{l:List (List Int)}(N:Lst o (mW c b))(h:RpF (bB c b) o l):PtF c b l:=by
 refine⟨h.len,fun i hi=>Lst.ext (h.pt i hi) fun r=>?_⟩;unfold rpS ptS;have e: ∀r,oS o r↔mW c b r:=kW N;constructor
 ·exact nj (fun q E=>E.imp (e q).1 id) _ r
 exact nj (fun q E=>E.imp (e q).2 id) _ r
theorem rblocks_c{b7:Option Addr}{cc:Nat}(c:VFnT)(hs:HS (.of H []) F H [] R)(ih:in64 c.m)(ik:in64 c.r)(Z:SR F (sL b7 c.u.length cc) c.u)(hT:TB 37 tabC F)(ci: ∀j,(c.u.getD j v_).v.length<=1073741824):kKt ex 51 [(aG [(iI c.m),(iI c.r),(sL b7 c.u.length cc)])] H fun v H'=> ∃(ax:Option Addr) (kx:Nat) (x:List (List Int)) (ay:Option Addr) (ky:Nat) (y:List (List Int)) (F':Fz),Fz.le F F'/\HS (.of H []) F' H' [] R/\v= .tuple ⟨[sL ax x.length kx,sL ay y.length ky]⟩/\SR F' (sL ax x.length kx) x/\SR F' (sL ay y.length ky) y/\(ca c=true->BkF c x y)/\(ca c=false->x=[]/\y=[]):=by
 refine aC Tryz.func51 V V (am 1 V (ab (bd (aR hs V V) V V ?_)));rintro _ H2 _ ⟨b1,rfl,f3,_⟩;refine wTo 2 1 [] 2 3 [] [(2,(sL none 0 0)),(3,(sL none 0 0))] V fun _=>ah 3 V (ab (aY 1 0 12 12 [] [(12,(aG [(iI c.m),(iI c.r),(sL b7 c.u.length cc)]))] (Hr_ 0 0 Hn_) f3 V V fun _=>zc (m3.gI ex c (HS.call f3) M M Z hT (fun j=>a0e (ci j) M)) ?_))
 rintro _ H5 ⟨r5,F5,ef,ch,rfl,rfl⟩;replace ch:=HS.back f3 V ch;replace hT:=hT.mono ef;replace Z:=Z.mono ef;refine bL 1 2 14 14 [] [(14,(.bool (!(ca c))))] Hn_ (by kernel_rfl) V fun _=>ah 1 V (zI 1 2 (fun c7=>?_) fun c7=>?_)
 ·have hv:=c7;refine wT 1 [] 2 3 [] [(2,(sL none 0 0)),(3,(sL none 0 0))] V fun _=>aj ⟨.inr V,_,V,none,0,([]:List (List Int)),none,0,([]:List (List Int)),_,(ef),(HS.forget ch),V,(SR.nil:SR F5 (sL none 0 0) ([]:List (List Int))),(SR.nil:SR F5 (sL none 0 0) ([]:List (List Int))),(fun h=>absurd (h.symm.trans hv) e_),(fun _=>⟨V,V⟩)⟩
 have hv:=c7;have vF:=e7 hv;have nm:=vF.nb;have ly:=vF.r;refine aL V (eO 3 15 17 [] [(17,(iI (c.u.length:Int)))] (Hr_ 1 0 Hn_) ch V V fun _=>fu (id:= .x []) (cQ ([]:(List Int)) ch.log0 V V V V V V V V V ⟨none,0,V,SR.nil⟩ M M) V V (by rintro _ _ g5 ⟨d1,ez,rfl,c8,_,hwr⟩;exact dC V V (Wr.did hwr)) (kb V) ?_);rintro _ hD g5 ⟨d1,ez,rfl,c8,a9,_⟩ hA g8;replace a9:=HS.lg a9 ch g8;generalize ({hD with log:=hA}:Heap)=h4 at a9⊢;have c8:OS F5 (sL d1 (List.replicate c.u.length ([]:(List Int))).length ez) (List.replicate c.u.length ([]:(List Int))) g5:=c8;refine zp 2 (bE (v:=(sL b7 c.u.length cc)) (id:= .l b1) (gB (i:=2) V V (HS.hc a9.log0 (i:=0) V) V V) V V (jj V) (⟨.inl V,.inr a0k,q_⟩) (bE (v:=(iI (c.u.length:Int))) (id:= .v) (nX (α:=BlkT) V V (SR.sv Z a9.log0)) V V (nK V) (i9 _) (fu (id:= .x []) (cQ ([]:(List Int)) a9.log0 V V V V V V V V V ⟨none,0,V,SR.nil⟩ M M) V V (by rintro _ _ g6 ⟨d2,e0,rfl,c9,_,hwr⟩;exact dC V V (Wr.did hwr)) (⟨.inl V,.inl V,.inl V,.inr ⟨trivial,trivial⟩,.inr trivial,.inr a0k,q_⟩) ?_)));rintro _ hE g6 ⟨d2,e0,rfl,c9,b9,_⟩ hB g9;replace b9:=HS.lg b9 a9 g9;generalize ({hE with log:=hB}:Heap)=h5 at b9⊢;have c9:OS F5 (sL d2 (List.replicate c.u.length ([]:(List Int))).length e0) (List.replicate c.u.length ([]:(List Int))) g6:=c9;let g7:Fp:=(fP b1 [(iI c.m),(iI c.r),(sL b7 c.u.length cc)])
 refine eO 2 1 0 [4,5] [(4,(sL d1 (List.replicate c.u.length ([]:(List Int))).length ez)),(5,(sL d2 (List.replicate c.u.length ([]:(List Int))).length e0))] Hn_ b9 V V fun _=>bC 3 V (wT 2 [] 1 0 [6] [(6,(.bool true))] V fun _=>ak (fun(mm:Nat) f H'=> ∃(mo:Bool) (I1:List (List Int)) (O1:List (List Int)) (aw:Option Addr) (a1:Nat) (bk:Fp) (aA:Option Addr) (a2:Nat) (bl:Fp) (F':Fz),Fz.le F5 F'/\HS (Base.of H []) F' H' [g7,bk,bl] R/\OS F' (sL aw I1.length a1) I1 bk/\OS F' (sL aA O1.length a2) O1 bl/\aB f [(1,(pT b1 0)),(4,(sL aw I1.length a1)),(5,(sL aA O1.length a2)),(6,(.bool mo))]/\mm=mea mo (c.u.length *6000) (cnt2 I1 O1)/\(RSn c I1 O1)/\(mo=false->∀b,b<c.u.length->CL c I1 O1 b)) _ ⟨true,List.replicate c.u.length ([]:(List Int)),List.replicate c.u.length ([]:(List Int)),d1,ez,g5,d2,e0,g6,_,fR,b9,c8,c9,⟨V,V,V,V,trivial⟩,V,(rsn_zero V),(by intro h;cases h)⟩ ?_)
 rintro jq k5 kn ⟨mo,I1,O1,aw,a1,bk,aA,a2,bl,hC,co,ds,dd,bb,f0,rfl,e1,cl⟩ hu;refine au _ f0 (fun _=>?_);clear f0;replace hT:=hT.mono co;replace Z:=Z.mono co;have il:=e1.li;have iz:=e1.lo;refine am 2 V (wT 1 [] 23 23 [] [(23,(.bool mo))] V fun _=>zI 3 5 (fun hh=>?_) fun hh=>?_)
 ·have lx:=hh;refine wT 2 [] 1 0 [6] [(6,(.bool false))] V fun _=>aU 2 24 27 [7] [(7,(iI ((c.u.length:Int)-1)))] (Hr_ 1 0 (Ha_ (vi (n:=(c.u.length:Int)-1)) Hn_)) ds V V fun _=>ak (fun(mm:Nat) f H'=> ∃(bz:Int) (m2:Bool) (I2:List (List Int)) (O2:List (List Int)) (U:Option Addr) (a_:Nat) (a4:Fp) (E:Option Addr) (T:Nat) (a5:Fp) (F':Fz),Fz.le hC F'/\HS (Base.of H []) F' H' [g7,a4,a5] R/\OS F' (sL U I2.length a_) I2 a4/\OS F' (sL E O2.length T) O2 a5/\aB f [(1,(pT b1 0)),(4,(sL U I2.length a_)),(5,(sL E O2.length T)),(6,(.bool m2)),(7,(iI bz))]/\mm=(bz+1).toNat/\(RSn c I2 O2)/\(-1<=bz/\bz<(c.u.length:Int))/\(m2=false->I2=I1/\O2=O1)/\(m2=true->cnt2 I1 O1<cnt2 I2 O2)/\(m2=false->∀b:Nat,bz<(b:Int)->b<c.u.length->CL c I2 O2 b)) _ ⟨(c.u.length:Int)-1,false,I1,O1,aw,a1,bk,aA,a2,bl,_,fR,ds,dd,bb,⟨V,V,V,V,V,trivial⟩,V,(e1),M,(fun _=>⟨V,V⟩),(by intro h;cases h),(by intro _ b h1 h2;omega)⟩ ?_
  rintro jw k6 ko ⟨bz,m2,I2,O2,U,a_,a4,E,T,a5,kc,c5,b3,N,aa,f1,rfl,a7,hbz,hJ,hj,hcl⟩ hw;refine au _ f1 (fun _=>?_);clear f1;replace hT:=hT.mono c5;replace Z:=Z.mono c5;have it:=a7.li;have i1:=a7.lo;refine am 2 V (wT 1 [] 28 29 [] [(29,(.bool (decide ((0:Int)<=bz))))] V fun _=>zd 4 5 (fun hF=>?_) fun hF=>?_)
  ·have a6:bz.toNat<c.u.length:=M
   have ld:=ci bz.toNat;refine wT 2 [] 1 0 [8] [(8,(sL none 0 0))] V fun _=>ab ?_
   obtain⟨e6,f5⟩:=Sv.view (SR.sv Z b3);obtain⟨hP,hQ,hR,hS,he⟩:=BlkT.fx (f5 bz.toNat);refine aY 5 0 32 36 [] [(36,(aG [(sL (cA (e6 bz.toNat) 0) (c.u.getD bz.toNat v_).v.length (cK (e6 bz.toNat) 0)),(iI (c.u.getD bz.toNat v_).f),(iI (c.u.getD bz.toNat v_).r),(iI (c.u.getD bz.toNat v_).t),(iI (c.u.getD bz.toNat v_).e)]))] (Hr_ 1 0 (Ha_ (Sv.ix (j:=bz) (SR.sv Z b3)) (Hl_ 4 (qn 82 0 5 (BlkT.vw (f5 bz.toNat)) V V V V) Hn_))) b3 V V fun _=>zc (ma.rsucc_c ex (c.u.getD bz.toNat v_) (HS.call b3) he M M M M hT) ?_
   rintro _ kp ⟨e3,g3,lf,hg,b8,dt,rfl,b6,rfl⟩;replace dt:=HS.back b3 V dt;refine za (sL e3 (br (c.u.getD bz.toNat v_)).length g3) (ah 3 V (wT 2 [] 1 0 [10] [(10,(iI 0))] V fun _=>ak (fun(mm:Nat) f H'=> ∃(o:List Int) (q:Nat) (ap:Option Addr) (aq:Nat) (F':Fz),Fz.le hg F'/\HS (Base.of H []) F' H' [g7,a4,a5] R/\SR F' (sL ap o.length aq) o/\aB f [(1,(pT b1 0)),(4,(sL U I2.length a_)),(5,(sL E O2.length T)),(6,(.bool m2)),(7,(iI bz)),(8,(sL ap o.length aq)),(9,(sL e3 (br (c.u.getD bz.toNat v_)).length g3)),(10,(iI (q:Int)))]/\mm=(br (c.u.getD bz.toNat v_)).length-q/\(Lst o (uS c I2 bz.toNat q))/\(q<=(br (c.u.getD bz.toNat v_)).length)) _ ⟨([]:List Int),0,none,0,_,fR,dt,(SR.nil:SR hg (sL none 0 0) ([]:List Int)),⟨V,V,V,V,V,V,V,V,trivial⟩,V,(uS_zero),M⟩ ?_));rintro ka k7 kr ⟨o,q,ap,aq,kd,a8,an,a3,f2,rfl,ho,hq⟩ hz;refine au _ f2 (fun _=>?_);clear f2;replace hT:=(hT.mono b8).mono a8;replace Z:=(Z.mono b8).mono a8;replace b6:=b6.mono a8;replace N:=(N.mono b8).mono a8;replace aa:=(aa.mono b8).mono a8;have i4:=succ_len (b:=(c.u.getD bz.toNat v_));refine am 2 V (wT 1 [] 38 41 [] [(41,(.bool (decide ((q:Int)<((br (c.u.getD bz.toNat v_)).length:Int)))))] V fun _=>zd 3 5 (fun hG=>?_) fun hG=>?_)
   ·have fz:=iJ (l:=br (c.u.getD bz.toNat v_)) (q:=q) M;have cv:=vF.succ bz.toNat a6 _ fz;have no:=Lst.len ho ly.1 (fun r h=>uS_lt vF a7 h);have ne:((I2.getD ((br (c.u.getD bz.toNat v_)).getD q 0).toNat v_).length:Int)<=c.r:=(rsn_len vF a7 ((br (c.u.getD bz.toNat v_)).getD q 0).toNat).1;refine ab ?_;obtain⟨h7,f6⟩:=Sv.view (SR.sv b6 an);have k8:=fI (f6 q);obtain⟨e8,f7⟩:=Sv.view (OS.sv N an (i:=1) V);have hM:=fL (f7 ((br (c.u.getD bz.toNat v_)).getD q 0).toNat);refine bL 8 0 44 51 [] [(44,(sL ap o.length aq)),(51,(sL (cA (e8 ((br (c.u.getD bz.toNat v_)).getD q 0).toNat) 0) (I2.getD ((br (c.u.getD bz.toNat v_)).getD q 0).toNat v_).length (cK (e8 ((br (c.u.getD bz.toNat v_)).getD q 0).toNat) 0)))] (Ha_ (Sv.ix (j:=(q:Int)) (SR.sv b6 an)) (Hl_ 5 (ql 3 0 (vI (f6 q)) V V) (Ha_ (Sv.ix (j:=((br (c.u.getD bz.toNat v_)).getD q 0)) (OS.sv N an (i:=1) V)) (Hl_ 7 (ql 22 0 (vL (f7 ((br (c.u.getD bz.toNat v_)).getD q 0).toNat)) V V) Hn_)))) (by kernel_rfl) V fun _=>zc (ma.fv ex o (I2.getD ((br (c.u.getD bz.toNat v_)).getD q 0).toNat v_) (HS.call an) a3 hM hT M) ?_
    rintro _ kz ⟨e4,g4,lr,kg,hl,dv,rfl,ha,rfl⟩;replace dv:=HS.back an V dv;refine za (sL e4 (cU o (I2.getD ((br (c.u.getD bz.toNat v_)).getD q 0).toNat v_)).length g4) (ah 2 V (wU 1 [] 42 43 [10] [(10,(iI ((q:Int)+1)))] (vi (n:=(q:Int)+1)) V fun _=>?_));refine hz _ _ _ ?_ ⟨cU o (I2.getD ((br (c.u.getD bz.toNat v_)).getD q 0).toNat v_),q+1,e4,g4,_,(fT (a8) hl),dv,ha,⟨V,V,V,V,V,V,V,V,trivial⟩,V,(uS_step a7 (show q<(br (c.u.getD bz.toNat v_)).length by omega) ho),M⟩;omega
   refine ab ?_;obtain⟨fd,f8⟩:=Sv.view (SR.sv Z an);obtain⟨hV,hW,hX,hY,hf⟩:=BlkT.fx (f8 bz.toNat);refine aY 6 0 53 58 [] [(57,(aG [(sL (cA (fd bz.toNat) 0) (c.u.getD bz.toNat v_).v.length (cK (fd bz.toNat) 0)),(iI (c.u.getD bz.toNat v_).f),(iI (c.u.getD bz.toNat v_).r),(iI (c.u.getD bz.toNat v_).t),(iI (c.u.getD bz.toNat v_).e)])),(58,(sL ap o.length aq))] (Hr_ 1 0 (Ha_ (Sv.ix (j:=bz) (SR.sv Z an)) (Hl_ 4 (qn 82 0 5 (BlkT.vw (f8 bz.toNat)) V V V V) Hn_))) an V V fun _=>zc (mh.rpoints_c ex (c.u.getD bz.toNat v_) o (HS.call an) hf M M M M a3 hT (⟨_,rpo_of vF a7 a6 ld ho⟩)) ?_
   rintro _ k0 ⟨h6,jb,cg,k9,ki,c6,ar,rfl,et,ib⟩;replace ar:=HS.back an V ar;replace N:=N.mono c6;replace aa:=aa.mono c6;replace a3:=a3.mono c6;obtain⟨b2,f9⟩:=Sv.view (OS.sv et ar (i:=3) V);have hO:=fL (f9 0);refine bL 3 7 60 61 [11] [(11,(sL (cA (b2 0) 0) (cg.getD 0 v_).length (cK (b2 0) 0)))] (Ha_ (Sv.ix (j:=0) (OS.sv et ar (i:=3) V) e_ (by(have hq:=RpF.len X;omega))) (Hl_ 8 (ql 22 0 (vL (f9 0) (by(have hq:=RpF.len X;omega))) V V) Hn_)) (by kernel_rfl) V fun _=>ah 2 V ?_
   obtain⟨h8,go⟩:=Sv.view (OS.sv aa ar (i:=2) V);have l0:=fL (go bz.toNat);obtain⟨h9,g2⟩:=Sv.view (OS.sv N ar (i:=1) V);have l1:=fL (g2 bz.toNat);refine wrp 1 62 82 [6] [(6,(.bool ((m2||((o.length:Int) !=((O2.getD bz.toNat v_).length:Int)))||(((cg.getD 0 v_).length:Int) !=((I2.getD bz.toNat v_).length:Int)))))] (Ha_ (fun(g1:m2=false)=>(Sv.ix (j:=bz) (OS.sv aa ar (i:=2) V) (by(try simp only[BS]at g1);(first|(dsimp only;omega)|omega|(have hq:=RpF.len X;dsimp only at hq⊢;omega)|(have hq:=RpF.len X;omega))) (by(try simp only[BS]at g1);(first|(dsimp only;omega)|omega|(have hq:=RpF.len X;dsimp only at hq⊢;omega)|(have hq:=RpF.len X;omega))))) (be 7 (fun g1=>(ql 22 0 (vL (go bz.toNat) (by(try simp only[BS]at g1);(first|(dsimp only;omega)|omega|(have hq:=RpF.len X;dsimp only at hq⊢;omega)|(have hq:=RpF.len X;omega)))) V V)) (Ha_ (fun(g1:(m2||((o.length:Int) !=((O2.getD bz.toNat v_).length:Int)))=false)=>(Sv.ix (j:=bz) (OS.sv N ar (i:=1) V) (by(try simp only[BS]at g1);(first|(dsimp only;omega)|omega|(have hq:=RpF.len X;dsimp only at hq⊢;omega)|(have hq:=RpF.len X;omega))) (by(try simp only[BS]at g1);(first|(dsimp only;omega)|omega|(have hq:=RpF.len X;dsimp only at hq⊢;omega)|(have hq:=RpF.len X;omega))))) (be 17 (fun g1=>(ql 22 0 (vL (g2 bz.toNat) (by(try simp only[BS]at g1);(first|(dsimp only;omega)|omega|(have hq:=RpF.len X;dsimp only at hq⊢;omega)|(have hq:=RpF.len X;omega)))) V V)) Hn_)))) V V fun _=>ab (bL 7 0 83 89 [] [(85,(sL E O2.length T)),(86,(iI bz)),(87,(sL (cA (b2 0) 0) (cg.getD 0 v_).length (cK (b2 0) 0))),(88,(sL ap o.length aq)),(89,(.pointer (some ⟨sB (sL U I2.length a_),sO (sL U I2.length a_)+bz.toNat *Rp.sz (List Int),none⟩)))] (Ha_ (Sv.ix (j:=bz) (OS.sv N ar (i:=1) V)) Hn_) (by kernel_rfl) V fun _=>gf (dm (α:=(List Int)) (j:=bz.toNat) (off:=0) (q:=1) (cg.getD 0 v_) N ar V V V V V V V V (bg (x:=v_) M) V (by rintro cs ⟨_,_,rfl,_⟩;exact⟨a0a V,⟨(cA (b2 0) 0),(cK (b2 0) 0),V,hO⟩⟩)) V ?_)
   rintro _ k3 hK ⟨dk,f4,_⟩;have h0:=OS.len' dk;refine bL 1 8 90 90 [] [(90,(.pointer (some ⟨sB (sL E O2.length T),sO (sL E O2.length T)+bz.toNat *Rp.sz (List Int),none⟩)))] (Ha_ (Sv.ix (j:=bz) (OS.sv aa f4 (i:=2) V)) Hn_) (by kernel_rfl) V fun _=>gf (dm (α:=(List Int)) (j:=bz.toNat) (off:=0) (q:=2) o aa f4 V V V V V V V V (bg (x:=v_) M) V (by rintro cs ⟨_,_,rfl,_⟩;exact⟨a0a V,⟨ap,aq,V,a3⟩⟩)) V ?_
   rintro _ k4 hL ⟨dl,hp,_⟩;have h3:=OS.len' dl;refine ah 2 V (wU 1 [] 30 31 [7] [(7,(iI (bz-1)))] (vi (n:=bz-1)) V fun _=>?_);have cv:=stp_of (I:=I2) (O:=O2) (show(br (c.u.getD bz.toNat v_)).length<=q by omega) ho X;have ck:=mv a7 a6 cv hJ hj V;refine hw _ _ _ ?_ ⟨bz-1,((m2||((o.length:Int) !=((O2.getD bz.toNat v_).length:Int)))||(((cg.getD 0 v_).length:Int) !=((I2.getD bz.toNat v_).length:Int))),I2.set bz.toNat (cg.getD 0 v_),O2.set bz.toNat o,U,a_,hK,E,T,hL,_,(fT (fT (fT (c5) b8) a8) c6),(HS.sub hp (a03 _ _)),(OS.norm dk),(OS.norm dl),(agC V (agC (show Value.slice U I2.length a_=Value.slice U (I2.set bz.toNat (cg.getD 0 v_)).length a_ by rw[OS.len' dk]) (agC (show Value.slice E O2.length T=Value.slice E (O2.set bz.toNat o).length T by rw[OS.len' dl]) ⟨V,V,trivial⟩))),V,(rsn_set a7 a6 cv),M,(ck.1),(ck.2.1),(fun h b h1 h2=>ck.2.2 h (fun hm b h1=>hcl hm b M) b M h2)⟩;omega
  refine hu _ _ _ ?_ ⟨m2,I2,O2,U,a_,a4,E,T,a5,_,(fT (co) c5),b3,N,aa,⟨V,V,V,V,trivial⟩,V,(a7),(fun h b hb=>hcl h b M hb)⟩;rw[lx];exact mea_lt hj (cnt2_le vF a7)
 refine wT 1 [] 2 3 [91,92] [(2,(sL aw I1.length a1)),(3,(sL aA O1.length a2))] V fun _=>?_
 obtain⟨kk,fi,hr,dn,i2⟩:=OS.frz dd ds (i:=1) V;replace bb:=bb.mono fi;obtain⟨kl,fj,ht,hn,i3⟩:=OS.frz bb hr (i:=2) V;replace dn:=dn.mono fj;refine aj ⟨.inr V,_,V,aw,a1,I1,aA,a2,O1,_,(fT (fT (fT (ef) co) fi) fj),(HS.forget ht),V,dn,hn,(fun _=>bkf_of e1 (cl X)),(fun h=>absurd (hv.symm.trans h) e_)⟩
end mi
open mi
namespace mj
variable (ex:FuncId) {F:Fz} {H:Heap} {R:List Fp}
theorem reads6{v:VInT}(U:v.i.op=6)(x:Int):x∈aF v↔x∈v.args:=by
 have E:alV v.i.op=true:=by rw[U];rfl
 have N:(aE v.i.op).ra=false:=by rw[U];rfl
 have T:(aE v.i.op).rb=false:=by rw[U];rfl
 unfold aF;rw[if_pos E,nh];unfold eG;rw[N,T,if_neg o_,if_neg o_,if_neg M,if_pos U];simp
theorem ac_lst{c:VFnT}{b i:Nat}{l:List Int}(v:VF c)(N:b<c.u.length)(hi:i<(bB c b).v.length)(h:Lst l (ptS c b (i+1))):Lst (acV ((bB c b).v.getD i v_) l) (acI c b i):=by
 unfold acV;have T:=bF (v.v b N i hi);split
 ·rename_i E;refine Lst.ext (Lst.addL (l:=aF ((bB c b).v.getD i v_)) (Lst.minus (w:=[((bB c b).v.getD i v_).i.a]) h) fun x U=>(T.1 x U).1) fun r=>?_
  rw[reads6 E,a08];unfold acI;exact⟨fun h=>⟨E,h⟩,fun h=>h.2⟩
 rename_i E;exact Lst.nil fun r h=>E h.1
def acJ(c:VFnT)(b k r:Nat):Prop:=acK c b r\/∃j,j<k/\acI c b j r
theorem acj_zero{c:VFnT}{b:Nat}{o:List Int}(h:Lst o (acK c b)):Lst o (acJ c b 0):=Lst.ext h fun r=>⟨.inl,fun h=>h.elim id fun⟨j,h,_⟩=>absurd h (a0B _)⟩
theorem acj_step{c:VFnT}{b k:Nat}{o l:List Int}(h:Lst o (acJ c b k))(T:Lst l (acI c b k)):Lst (cU o l) (acJ c b (k+1)):=Lst.ext (Lst.union h T) fun r=>by
 unfold acJ;constructor
 ·rintro((h|⟨j,N,E⟩)|h)
  ·exact .inl h
  ·exact .inr ⟨j,by omega,E⟩
  exact .inr ⟨k,a1b _,h⟩
 rintro(h|⟨j,N,E⟩)
 ·exact .inl (.inl h)
 rcases a0g j k with hj|hj
 ·exact .inl (.inr ⟨j,hj,E⟩)
 rw[show j=k by omega]at E;exact .inr E
theorem acj_all{c:VFnT}{b k:Nat}{o:List Int}(Z:(bB c b).v.length=k)(h:Lst o (acJ c b k)):Lst o (acK c (b+1)):=Lst.ext h fun r=>by
 unfold acJ acK;constructor
 ·rintro(⟨U,j,T,E,N⟩|⟨j,T,E⟩)
  ·exact⟨U,j,by omega,E,N⟩
  exact⟨b,j,a1b _,by omega,E⟩
 rintro⟨U,j,T,E,N⟩;rcases a0g U b with hb|hb
 ·exact .inl ⟨U,j,hb,E,N⟩
 have:U=b:=M
 subst this;exact .inr ⟨j,by omega,N⟩
theorem ack_zero{c:VFnT}:Lst [] (acK c 0):=Lst.nil fun r ⟨b,_,E,_⟩=>a0B _ E
theorem ack_all{c:VFnT}{b:Nat}{o:List Int}(E:b=c.u.length)(h:Lst o (acK c b)):Lst o (acS c):=by subst E;exact h
theorem aci_lt{c:VFnT}(v:VF c){b i r:Nat}(N:b<c.u.length)(hi:i<(bB c b).v.length)(h:acI c b i r):(r:Int)<c.r:=by
 rcases h with⟨T,⟨E,_⟩|E⟩
 ·exact iG v N E
 exact((bF (v.v b N i hi)).1 _ ((reads6 T _).2 E)).2
theorem mV{c:VFnT}(v:VF c){k r:Nat}(U:k<=c.u.length)(h:acK c k r):(r:Int)<c.r:=by obtain⟨b,i,T,E,N⟩:=h;exact aci_lt v M E N
theorem acj_lt{c:VFnT}(v:VF c){b k r:Nat}(T:b<c.u.length)(U:k<=(bB c b).v.length)(h:acJ c b k r):(r:Int)<c.r:=by
 rcases h with h|⟨j,N,E⟩
 ·exact mV v (a2e T) h
 exact aci_lt v T M E
theorem acV_len{v:VInT}{l:List Int}:(acV v l).length<=l.length+(3+v.args.length):=by
 unfold acV;split
 ·refine a0e eE ?_;have E:(gT l [v.i.a]).length<=l.length:=a1a _ _;have N:=eF (v:=v);omega
 exact a0D _
theorem rlp_c{U:Option Addr}{a_:Nat}(c:VFnT)(block:Int)(hs:HS (.of H []) F H [] R)(cg:in64 c.m)(ch:in64 c.r)(E:SR F (sL U c.u.length a_) c.u)(dt:in64 block)(hT:TB 37 tabC F)(a0: ∀j,(c.u.getD j v_).v.length<=1073741824):kKt ex 60 [(aG [(iI c.m),(iI c.r),(sL U c.u.length a_)]),(iI block)] H fun v H'=> ∃(al:Option Addr) (kl:Nat) (l:List (List Int)) (F':Fz),Fz.le F F'/\HS (.of H []) F' H' [] R/\v=sL al l.length kl/\SR F' (sL al l.length kl) l/\(ca c=true->0<=block->block<(c.u.length:Int)->PtF c block.toNat l)/\((ca c=false\/block<0\/(c.u.length:Int)<=block)->l=[]):=by
 refine aC Tryz.func60 V V (am 1 V (ab (bd (aR hs V V) V V ?_)));rintro _ H2 _ ⟨b1,rfl,ar,_⟩;refine za (sL none 0 0) (ah 3 V (sj 1 7 20 [] [(20,(.bool (((!(ca c))||(decide (block<0)))||(decide ((c.u.length:Int)<=block)))))] (Hr_ 0 0 (Hk_ 1 (jc ar fun _ _ j q=>m3.gI ex c q M M (E.mono j) (hT.mono j) (fun j=>a0e (a0 j) M)) (Hj1_ 10 (fun _=>(jl ar 34 2 0 V V V)) Hn_))) ar V V fun c8 H3 F3 Z aa=>?_));replace hT:=hT.mono Z;replace E:=E.mono Z;refine zI 1 2 (fun c4=>?_) fun c4=>?_
 ·have hb:=c4;refine wT 1 [] 4 4 [] [(4,(sL none 0 0))] V fun _=>aj ⟨.inr V,_,V,none,0,([]:List (List Int)),_,(Z),(HS.forget aa),V,(SR.nil:SR F3 (sL none 0 0) ([]:List (List Int))),(by first|exact fun h h2 h3=>absurd hb (by simp[h];omega)|exact fun _ _ _=>ptf_of (bk.hy _ ad) X),(by first|exact fun _=>rfl|exact fun h=>by rw[hv]at h;simp at h;omega)⟩
 have hb:=c4;have hv:ca c=true:=hb.1.1;have vF:=e7 hv;have e2:=vF.nb;have ad:block.toNat<c.u.length:=M
 have ds:=a0 block.toNat;refine ab (aY 1 0 22 22 [] [(22,(aG [(iI c.m),(iI c.r),(sL U c.u.length a_)]))] (Hr_ 0 0 Hn_) aa V V fun _=>zc (mi.rblocks_c ex c (HS.call aa) M M E hT X) ?_);rintro _ H7 ⟨c7,dk,x7,bz,b2,y7,F7,ap,N,rfl,co,aq,dd,c9⟩;replace N:=HS.back aa V N;replace hT:=hT.mono ap;replace E:=E.mono ap;refine bL 5 2 24 25 [5,6,21] [(6,(sL bz y7.length b2))] Hn_ (by kernel_rfl) V fun _=>ah 2 V ?_
 have bk:=(by assumption:ca c=true->BkF c _ y7) hv;have e0:=bk.lx;have e1:=bk.ly;have e3:=Lst.len (bk.hy block.toNat ad) vF.r.1 (fun r h=>jf vF h);refine aL V ?_;obtain⟨a2,a3⟩:=Sv.view (SR.sv E N);obtain⟨b4,b5,b6,b7,aA⟩:=BlkT.fx (a3 block.toNat);obtain⟨an,av⟩:=Sv.view (SR.sv aq N);have b3:=fL (av block.toNat);refine eO 9 26 34 [] [(30,(aG [(sL (cA (a2 block.toNat) 0) (c.u.getD block.toNat v_).v.length (cK (a2 block.toNat) 0)),(iI (c.u.getD block.toNat v_).f),(iI (c.u.getD block.toNat v_).r),(iI (c.u.getD block.toNat v_).t),(iI (c.u.getD block.toNat v_).e)])),(34,(sL (cA (an block.toNat) 0) (y7.getD block.toNat v_).length (cK (an block.toNat) 0)))] (Hr_ 1 0 (Ha_ (Sv.ix (j:=block) (SR.sv E N)) (Hl_ 4 (qn 82 0 5 (hc0 (BlkT.vw (a3 block.toNat))) V V V V) (Ha_ (Sv.ix (j:=block) (SR.sv aq N)) (Hl_ 8 (ql 22 0 (hc0 (vL (av block.toNat))) V V) Hn_))))) N V V fun _=>ba (W:=[]) (aO V V V) V V V (mh.rpoints_c ex (c.u.getD block.toNat v_) (y7.getD block.toNat v_) (HS.call N.log0) aA M M M M b3 hT (⟨_,rpo_out vF ad ds (bk.hy _ ad)⟩)) (kb V) ?_
 rintro _ bl ⟨ag,aw,a4,dl,c5,a5,T,rfl,ay,cc⟩;refine⟨Wr.did T.log,fun bb ax=>?_⟩;replace T:=HS.back N.log0 V T;replace T:=HS.lg T N ax;generalize ({bl with log:=bb}:Heap)=b9 at T⊢;refine fa (sL ag a4.length aw) V V V (bC 1 V ?_);obtain⟨c6,a7,a9,a8,ci⟩:=OS.frz ay T (i:=1) V;refine aj ⟨.inr V,_,V,ag,aw,a4,_,(fT (fT (fT (Z) ap) a5) a7),(HS.forget a9),V,a8,(fun _ _ _=>ptf_of (bk.hy _ ad) X),(by exact fun h=>by rw[hv]at h;simp at h;omega)⟩
theorem rac_c{ax:Option Addr}{aA:Nat}(c:VFnT)(hs:HS (.of H []) F H [] R)(g5:in64 c.m)(g6:in64 c.r)(E:SR F (sL ax c.u.length aA) c.u)(hT:TB 37 tabC F)(a6: ∀j,(c.u.getD j v_).v.length<=1073741824):kKt ex 30 [(aG [(iI c.m),(iI c.r),(sL ax c.u.length aA)])] H fun v H'=> ∃(ar:Option Addr) (kr:Nat) (r:List Int) (F':Fz),Fz.le F F'/\HS (.of H []) F' H' [] R/\v=sL ar r.length kr/\SR F' (sL ar r.length kr) r/\(ca c=true->Lst r (acS c))/\(ca c=false->r=[]):=by
 refine aC Tryz.func30 V V (am 1 V (ab (bd (aR hs V V) V V ?_)));rintro _ H2 _ ⟨b1,rfl,ez,_⟩;let c8:Fp:=(fP b1 [(iI c.m),(iI c.r),(sL ax c.u.length aA)])
 refine za (sL none 0 0) (ah 2 V (wT 3 [] 1 0 [3] [(3,(sL none 0 0))] V fun _=>wT 2 [] 1 0 [4] [(4,(iI 0))] V fun _=>ak (fun(mm:Nat) f H'=> ∃(o:List Int) (b:Nat) (Z:Option Addr) (ag:Nat) (F':Fz),Fz.le F F'/\HS (Base.of H []) F' H' [c8] R/\SR F' (sL Z o.length ag) o/\aB f [(1,(pT b1 0)),(3,(sL Z o.length ag)),(4,(iI (b:Int)))]/\mm=c.u.length-b/\(ca c=false->o=[])/\(ca c=true->Lst o (acK c b))/\(ca c=true->b<=c.u.length)/\(b<=1000)) _ ⟨([]:List Int),0,none,0,_,fR,ez,(SR.nil:SR F (sL none 0 0) ([]:List Int)),⟨V,V,V,trivial⟩,V,(fun _=>rfl),(fun _=>ack_zero),(fun _=>a0D _),M⟩ ?_));rintro hp f5 H5 ⟨o,b,Z,ag,F5,a4,b2,aa,c6,rfl,hz,ho,hbb,hn⟩ e0;refine au _ c6 (fun _=>?_);clear c6;replace hT:=hT.mono a4;replace E:=E.mono a4;refine am 2 V (sj 1 7 15 [] [(15,(.bool ((decide ((b:Int)<(c.u.length:Int)))&&ca c)))] (Hr_ 2 0 (Hj1_ 6 (fun _=>(jn b2 36 0 3 0 V V V V V)) (Hk1_ 7 (fun g1=>(jc b2 fun _ _ j q=>m3.gI ex c q (by(try simp only[BS]at g1);(first|(dsimp only;omega)|omega)) (by(try simp only[BS]at g1);(first|(dsimp only;omega)|omega)) (E.mono j) (hT.mono j) (fun j=>a0e (a6 j) M))) Hn_))) b2 V V fun hj H6 F6 a1 a7=>?_);replace hT:=hT.mono a1;replace E:=E.mono a1;replace aa:=aa.mono a1;refine zI 4 5 (fun c7=>?_) fun c7=>?_
 ·have hu:=c7;have hv:ca c=true:=hu.2;have vF:=e7 hv;have hK:=vF.nb;have dd:=vF.r;have al:b<c.u.length:=M
  have hI:=a6 b;refine ab (aY 2 0 18 19 [] [(18,(aG [(iI c.m),(iI c.r),(sL ax c.u.length aA)])),(19,(iI (b:Int)))] (Hr_ 0 0 Hn_) a7 V V fun _=>zc (rlp_c ex c (b:Int) (HS.call a7) M M E M hT X) ?_);rintro _ H9 ⟨a9,b7,l9,F9,a5,b3,rfl,a3,hm,hl⟩;replace b3:=HS.back a7 V b3;replace aa:=aa.mono a5;refine za (sL a9 l9.length b7) (ah 2 V ?_);have pf:PtF c b l9:=(by assumption:ca c=true->0<=((b:Nat):Int)->((b:Nat):Int)<(c.u.length:Int)->PtF c ((b:Nat):Int).toNat l9) hv M M;have hM:(l9).length=(c.u.getD b v_).v.length+1:=pf.len;refine wT 2 [] 1 0 [6] [(6,(iI 0))] V fun _=>ak (fun(mm:Nat) f H'=> ∃(o2:List Int) (k:Nat) (U:Option Addr) (a_:Nat) (F':Fz),Fz.le F9 F'/\HS (Base.of H []) F' H' [c8] R/\SR F' (sL U o2.length a_) o2/\aB f [(1,(pT b1 0)),(3,(sL U o2.length a_)),(4,(iI (b:Int))),(5,(sL a9 l9.length b7)),(6,(iI (k:Int)))]/\mm=(c.u.getD b v_).v.length-k/\(k<=(c.u.getD b v_).v.length)/\(Lst o2 (acJ c b k))) _ ⟨o,0,Z,ag,_,fR,b3,aa,⟨V,V,V,V,V,trivial⟩,V,M,(acj_zero (ho hv))⟩ ?_
  rintro ha hh dv ⟨o2,k,U,a_,he,av,N,aq,bl,rfl,hk,bz⟩ dl;refine au _ bl (fun _=>?_);clear bl;replace hT:=(hT.mono a5).mono av;replace E:=(E.mono a5).mono av;replace a3:=a3.mono av;refine am 2 V ?_;obtain⟨g2,b4⟩:=Sv.view (SR.sv E N);obtain⟨e1,e2,e3,e4,f3⟩:=BlkT.fx (b4 b);refine aU 1 21 29 [] [(29,(.bool (decide ((k:Int)<((c.u.getD b v_).v.length:Int)))))] (Hr_ 2 0 (Ha_ (Sv.ix (j:=(b:Int)) (SR.sv E N)) (Hl_ 6 (ql 80 0 (BlkT.vw (b4 b)) V V) Hn_))) N V V fun _=>zd 3 5 (fun ef=>?_) fun ef=>?_
  ·have ao:k<(c.u.getD b v_).v.length:=M
   have hL:=Lst.len bz dd.1 (fun r h=>acj_lt vF al hk h);have hd:(((l9).getD (k+1) v_).length:Int)<=c.r:=Lst.len (pf.pt (k+1) ao) dd.1 (fun r h=>iG vF al h);have g4:(((l9).getD (((k:Nat):Int)+1).toNat v_).length:Int)<=c.r:=hd;have g7:((c.u.getD b v_).v.getD k v_).args.length<=6:=(bF (vF.v b al k ao)).2.2;have hJ:=acV_len (v:=((c.u.getD b v_).v.getD k v_)) (l:=(l9).getD (((k:Nat):Int)+1).toNat v_);refine aL V ?_;obtain⟨g3,b5⟩:=Sv.view (SR.sv E N);obtain⟨e5,e6,e8,fd,a8⟩:=BlkT.fx (b5 b);obtain⟨bk,b6⟩:=Sv.view (SR.sv a8 N);obtain⟨fi,fj,f0,f1,f2,c5⟩:=VInT.fx (b6 k);refine eO 12 32 43 [] [(32,(sL U o2.length a_)),(41,(aG [(iI ((c.u.getD b v_).v.getD k v_).i.op),(iI ((c.u.getD b v_).v.getD k v_).i.a),(iI ((c.u.getD b v_).v.getD k v_).i.b),(iI ((c.u.getD b v_).v.getD k v_).i.c),(iI ((c.u.getD b v_).v.getD k v_).i.n),(sL (cA (bk k) 5) ((c.u.getD b v_).v.getD k v_).args.length (cK (bk k) 5))])),(42,(sL a9 l9.length b7)),(43,(iI (k:Int)))] (Hr_ 2 0 (Ha_ (Sv.ix (j:=(b:Int)) (SR.sv E N)) (Hl_ 6 (ql 80 0 (hc0 (BlkT.vw (b5 b))) V V) (Ha_ (Sv.ix (j:=(k:Int)) (SR.sv a8 N)) (Hl_ 9 (qn 88 0 6 (hc0 (VInT.vw (b6 k))) V V V V) Hn_))))) N V V fun _=>ba (W:=[]) (aO V V V) V V V (mh.oe ex l9 (k:Int) (HS.call N.log0) a3 M hT M) (⟨.inl V,.inl V,.inr trivial,.inr trivial,.inr trivial,.inr trivial,.inr trivial,.inr trivial,.inr trivial,.inr a0k,q_⟩) ?_
   rintro _ _ ⟨f9,g8,hq,rfl,rfl,ch,rfl⟩;refine⟨fun b hb=>absurd hb a0k,fun dn b9=>?_⟩;have ay:=HS.lg N.log0 N b9;generalize ({{dv with log:=[]} with log:=dn}:Heap)=f6 at ay⊢;refine ba (W:=[]) (aO V V V) V V V (mh.acall_c ex ((c.u.getD b v_).v.getD k v_) (l9.getD ((k:Int)+1).toNat v_) (HS.call ay.log0) M M M M M c5 ch hT M M) (kb V) ?_;rintro _ d1 ⟨go,g9,hr,hf,a2,T,rfl,ci,rfl⟩;refine⟨Wr.did T.log,fun ds cc=>?_⟩;replace T:=HS.back ay.log0 V T;replace T:=HS.lg T ay cc;generalize ({d1 with log:=ds}:Heap)=f7 at T⊢;replace hT:=hT.mono a2;replace aq:=aq.mono a2;refine ba (W:=[]) (aO V V V) V V V (ma.fv ex o2 (acV ((c.u.getD b v_).v.getD k v_) (l9.getD ((k:Int)+1).toNat v_)) (HS.call T.log0) aq ci hT M) (kb V) ?_;rintro _ d2 ⟨bb,b8,ht,hg,dk,an,rfl,co,rfl⟩;refine⟨Wr.did an.log,fun dt cg=>?_⟩;replace an:=HS.back T.log0 V an;replace an:=HS.lg an T cg;generalize ({d2 with log:=dt}:Heap)=f8 at an⊢;refine fa (sL bb (cU o2 (acV ((c.u.getD b v_).v.getD k v_) (l9.getD ((k:Int)+1).toNat v_))).length b8) V V V (bC 2 V (wU 1 [] 30 31 [6] [(6,(iI ((k:Int)+1)))] (vi (n:=(k:Int)+1)) V fun _=>?_));refine dl _ _ _ ?_ ⟨cU o2 (acV ((c.u.getD b v_).v.getD k v_) (l9.getD ((k:Int)+1).toNat v_)),k+1,bb,b8,_,(fT (fT (av) a2) dk),an,co,⟨V,V,V,V,V,trivial⟩,V,M,(acj_step bz (ac_lst vF al ao (pf.pt (k+1) ao)))⟩;omega
  refine wU 1 [] 16 17 [4] [(4,(iI ((b:Int)+1)))] (vi (n:=(b:Int)+1)) V fun _=>?_
  refine e0 _ _ _ ?_ ⟨o2,b+1,U,a_,_,(fT (fT (fT (a4) a1) a5) av),N,aq,⟨V,V,V,trivial⟩,V,(fun h=>absurd (hv.symm.trans h) e_),(fun _=>acj_all (show(c.u.getD b v_).v.length=k by omega) bz),(fun _=>al),M⟩;omega
 have hw:ca c=true->c.u.length<=b:=fun h=>by(have hc:=c7;simp only[h]at hc;simp at hc;omega)
 refine wT 1 [] 2 2 [47] [(2,(sL Z o.length ag))] V fun _=>aj ⟨.inr V,_,V,Z,ag,o,_,(fT (a4) a1),(HS.forget a7),V,aa,(fun h=>ack_all (by have h2:=hbb h;have h3:=hw h;omega) (ho h)),X⟩
end mj
open mj
namespace na
variable (ex:FuncId) {F:Fz} {H:Heap} {R:List Fp}
theorem con_at{l:List Int}{n:Int}{k:Nat}(h:k<l.length)(e:l.getD k 0=n):jJ l n=true:=lA.2 (e▸iJ h)
theorem con_not{l:List Int}{n:Int}{k:Nat}(ha:Asc l)(T: ∀j,j<k->l.getD j 0<n)(U: ∀j,k<=j->j<l.length->n<=l.getD j 0)(h: ¬(k<l.length/\l.getD k 0=n)):jJ l n=false:=by
 rw[a1r];intro hc;obtain⟨j,Z,e⟩:=a0t.1 (lA.1 hc);have e':l.getD j 0=n:=by rw[a02,a06 Z];exact e
 rcases a0g j k with E|E
 ·have:=T j E;omega
 have a_:=U k (a0d _) M;rcases a2a E with N|N
 ·subst N;exact h ⟨Z,e'⟩
 have:=asc_at ha N Z;exact h ⟨by omega,by omega⟩
theorem con_fin{l:List Int}{n:Int}{lo hi:Nat}(ha:Asc l)(h: ¬(lo:Int)<(hi:Int))(a_:lo<=hi/\hi<=l.length)(N: ∀j,j<lo->l.getD j 0<n)(T: ∀j,hi<=j->j<l.length->n<=l.getD j 0)(b:Bool)(Z:b=true↔(lo<l.length/\l.getD lo 0=n)):b=jJ l n:=by
 have e:lo=hi:=M
 subst e;cases b with
 |true=>obtain⟨E,U⟩:=Z.1 V;exact(con_at E U).symm
 |false=>exact(con_not ha N T fun E=>by have:=Z.2 E;cases this).symm
theorem bs_lo{l:List Int}{n:Int}{m:Nat}(E:Asc l)(T:m<l.length)(h:l.getD m 0<n): ∀j,j<m+1->l.getD j 0<n:=fun j N=>by
 rcases a2a (Nat.le_of_lt_succ N) with e|e
 ·subst e;exact h
 have:=asc_at E e T;omega
theorem bs_hi{l:List Int}{n:Int}{m:Nat}(E:Asc l)(h: ¬l.getD m 0<n): ∀j,m<=j->j<l.length->n<=l.getD j 0:=fun j N T=>by
 rcases a2a N with e|e
 ·subst e;omega
 have:=asc_at E e T;omega
theorem con1{n x:Int}:jJ [n] x=decide (x=n):=by unfold jJ;simp only[List.any_cons,List.any_nil,a1U];rw[a0s];simp only[decide_eq_true_eq];exact⟨fun h=>h.symm,fun h=>h.symm⟩
theorem ins_in{l:List Int}{n:Int}(T:Asc l)(h:jJ l n=true):dB l n=l:=by
 obtain⟨j,E,e⟩:=a0t.1 (lA.1 h);have N:l.getD j 0=n:=by rw[a02,a06 E];exact e
 have U:=pre_eq (l:=l) (n:=n) (k:=j) M (fun i hi=>by have:=asc_at T hi E;omega) (fun _=>by omega);exact(nC U E N).symm
theorem Lst.v{l:List Int}{S:Nat->Prop}{n:Int}(h:Lst l S)(T:0<=n):Lst (dB l n) (fun r=>S r\/(r:Int)=n):=⟨ins_asc h.asc,fun x=>by
 rw[im,h.mem];constructor
 ·rintro(rfl|E)
  ·exact⟨T,.inr M⟩
  exact⟨E.1,.inl E.2⟩
 rintro⟨E,N|N⟩
 ·exact .inr ⟨E,N⟩
 exact .inl M⟩
theorem Lst.del{l:List Int}{S:Nat->Prop}{n:Int}(h:Lst l S):Lst (gT l [n]) (fun r=>S r/\(r:Int)≠n):=Lst.ext (Lst.minus h) fun r=>by rw[a08]
structure PtX(c:VFnT)(b:Nat)(l:List (List Int)):Prop where
 len:l.length=(bB c b).v.length+2
 pt: ∀i,i<=(bB c b).v.length->Lst (dp l i) (ptS c b i)
 out:Lst (dp l ((bB c b).v.length+1)) (mW c b)
structure PsF(c:VFnT)(p:List (List (List Int))):Prop where
 len:p.length=c.u.length
 at_: ∀b,b<c.u.length->PtX c b (p.getD b v_)
theorem ps_snoc{c:VFnT}{E:List (List (List Int))}{k:Nat}{l:List (List Int)}(N:E.length=k)(h: ∀b,b<k->PtX c b (E.getD b v_))(T:PtX c k l): ∀b,b<k+1->PtX c b ((E++[l]).getD b v_):=fun b U=>by
 rw[dA];split
 ·rename_i e;rw[N]at e;subst e;exact T
 exact h b M
theorem end_yes2{c:VFnT}{b:Nat}{o:List Int}(h:Lst o (mW c b))(E:(bB c b).f=2\/(bB c b).f=3)(N:0<=(bB c b).r):Lst (dB o (bB c b).r) (ptS c b (bB c b).v.length):=Lst.ext (Lst.v h N) fun r=>by unfold ptS;rw[List.drop_length];show _↔endS _ _ _;unfold endS d6;rw[if_pos E,a08]
theorem end_no2{c:VFnT}{b:Nat}{o:List Int}(h:Lst o (mW c b))(E: ¬((bB c b).f=2\/(bB c b).f=3)):Lst o (ptS c b (bB c b).v.length):=Lst.ext h fun r=>by unfold ptS;rw[List.drop_length];show _↔endS _ _ _;unfold endS d6;rw[if_neg E];exact⟨.inl,fun h=>h.elim id fun h=>by cases h⟩
def wrS(S:Nat->Prop)(l:List Int)(q r:Nat):Prop:=S r/\(r:Int)∉l.take q
def rdS(S:Nat->Prop)(l:List Int)(q r:Nat):Prop:=S r\/(r:Int)∈l.take q
theorem wr_zero{w:List Int}{S:Nat->Prop}{l:List Int}(h:Lst w S):Lst w (wrS S l 0):=Lst.ext h fun r=>by unfold wrS;simp
theorem wr_yes{w:List Int}{S:Nat->Prop}{l:List Int}{q:Nat}(E:q<l.length)(h:Lst w (wrS S l q)):Lst (gT w [l.getD q 0]) (wrS S l (q+1)):=Lst.ext (Lst.del h) fun r=>by unfold wrS;rw[aX E (d:=0),a07,a08,and_assoc,not_or]
theorem wr_no{w:List Int}{S:Nat->Prop}{l:List Int}{q:Nat}(T:q<l.length)(hc:jJ w (l.getD q 0)=false)(h:Lst w (wrS S l q)):Lst w (wrS S l (q+1)):=Lst.ext h fun r=>by
 unfold wrS;rw[aX T (d:=0),a07,a08,not_or];constructor
 ·rintro⟨E,N⟩;refine⟨E,N,fun e=>?_⟩;have:(r:Int)∈w:=(h.mem r).2 ⟨by omega,by simpa using⟨E,N⟩⟩;rw[e]at this;rw[lA.2 this]at hc;cases hc
 rintro⟨E,N,_⟩;exact⟨E,N⟩
theorem rd_zero{w:List Int}{S:Nat->Prop}{l:List Int}(h:Lst w S):Lst w (rdS S l 0):=Lst.ext h fun r=>by unfold rdS;simp
theorem rd_yes{w:List Int}{S:Nat->Prop}{l:List Int}{q:Nat}(N:q<l.length)(E:0<=l.getD q 0)(h:Lst w (rdS S l q)):Lst (dB w (l.getD q 0)) (rdS S l (q+1)):=Lst.ext (Lst.v h E) fun r=>by unfold rdS;rw[aX N (d:=0),a07,a08,or_assoc]
theorem wr_lt{S:Nat->Prop}{l:List Int}{m:Int}(hs: ∀r,S r->(r:Int)<m){q r:Nat}(h:wrS S l q r):(r:Int)<m:=hs r h.1
theorem rd_lt{S:Nat->Prop}{l:List Int}{m:Int}(hs: ∀r,S r->(r:Int)<m)(E: ∀x∈l,0<=x/\x<m){q r:Nat}(h:rdS S l q r):(r:Int)<m:=by
 rcases h with h|h
 ·exact hs r h
 exact(E _ (a1k h)).2
theorem pt_done{c:VFnT}{b i q p:Nat}{w:List Int}(hi:i<(bB c b).v.length)(N:(ae ((bB c b).v.getD i v_)).length<=q)(E:(aF ((bB c b).v.getD i v_)).length<=p)(h:Lst w (rdS (wrS (ptS c b (i+1)) (ae ((bB c b).v.getD i v_)) q) (aF ((bB c b).v.getD i v_)) p)):Lst w (ptS c b i):=Lst.ext h fun r=>by unfold rdS wrS ptS;rw[a0i N,a0i E,tr_drop hi];exact or_comm
theorem pset{c:VFnT}{b i:Nat}{l:List (List Int)}{x:List Int}(U:l.length=(bB c b).v.length+2)(h: ∀j,i<j->j<=(bB c b).v.length->Lst (dp l j) (ptS c b j))(hi:i<=(bB c b).v.length)(T:Lst x (ptS c b i)): ∀j,i<=j->j<=(bB c b).v.length->Lst (dp (l.set i x) j) (ptS c b j):=fun j N E=>by
 rw[cR M];split
 ·rename_i e;subst e;exact T
 rename_i e;exact h j M E
theorem jr{aa:Option Addr}{ad:Nat}(l:List Int)(n:Int)(hs:HS (.of H []) F H [] R)(hl:SR F (sL aa l.length ad) l)(hn:in64 n)(hT:TB 37 tabC F)(ha:Asc l)(aq:l.length<=1073741824):kKt ex 141 [(sL aa l.length ad),(iI n)] H fun v H'=> ∃(r:Bool),H'=H/\v= .bool r/\r=jJ l n:=by
 refine aC Tryz.func141 V V (am 1 V (wT 2 [] 4 4 [] [(4,(.bool false))] V fun _=>wT 3 [] 8 9 [5,6] [(5,(iI 0)),(6,(iI (l.length:Int)))] V fun _=>ak (fun(mm:Nat) f H'=> ∃(lo:Nat) (hi:Nat),H'=H/\aB f [(0,(sL aa l.length ad)),(1,(iI n)),(5,(iI (lo:Int))),(6,(iI (hi:Int)))]/\mm=hi-lo/\(lo<=hi/\hi<=l.length)/\(∀j,j<lo->l.getD j 0<n)/\(∀j,hi<=j->j<l.length->n<=l.getD j 0)) _ ⟨0,l.length,V,⟨V,V,V,V,trivial⟩,V,M,(by intro j hj;omega),(by intro j h1 h2;omega)⟩ ?_));rintro aw f3 H ⟨lo,hi,rfl,T,rfl,h1,h2,h3⟩ a_;refine au _ T (fun _=>?_);clear T;refine am 2 V (wT 1 [] 10 12 [] [(12,(.bool (decide ((lo:Int)<(hi:Int)))))] V fun _=>zd 3 5 (fun c5=>?_) fun c5=>?_)
 ·refine wR 2 [] 13 16 [7] [(7,(iI (((lo+hi)/2:Nat):Int)))] (vA (vi (n:=(lo:Int)+(hi:Int))) (vA (vA (show(2:Int)≠0 from by decide) (vi (n:=(((lo+hi)/2:Nat):Int)))) trivial)) V fun _=>?_
  obtain⟨ar,U⟩:=Sv.view (SR.sv hl hs);have g8:=fI (U ((lo+hi)/2));refine wrp 1 17 22 [] [(22,(.bool (decide ((l.getD ((lo+hi)/2) 0)<n))))] (Ha_ (Sv.ix (j:=(((lo+hi)/2:Nat):Int)) (SR.sv hl hs)) (Hl_ 3 (ql 3 0 (vI (U ((lo+hi)/2))) V V) Hn_)) (by kernel_rfl) V fun _=>zd 0 0 (fun Z=>?_) fun Z=>?_
  ·refine wU 2 [] 23 24 [5] [(5,(iI ((((lo+hi)/2:Nat):Int)+1)))] (vi (n:=(((lo+hi)/2:Nat):Int)+1)) V fun _=>?_
   refine a_ _ _ _ ?_ ⟨((lo+hi)/2)+1,hi,V,⟨V,V,V,V,trivial⟩,V,M,(bs_lo ha M X),X⟩;omega
  refine wT 2 [] 25 25 [6] [(6,(iI (((lo+hi)/2:Nat):Int)))] V fun _=>?_
  refine a_ _ _ _ ?_ ⟨lo,(lo+hi)/2,V,⟨V,V,V,V,trivial⟩,V,M,M,(bs_hi ha X)⟩;omega
 obtain⟨ap,E⟩:=Sv.view (SR.sv hl hs);have av:=fI (E lo);refine wrp 1 26 37 [4] [(4,(.bool ((decide ((lo:Int)<(l.length:Int)))&&((l.getD lo 0)==n))))] (Ha_ (fun(N:(decide ((lo:Int)<(l.length:Int)))=true)=>(Sv.ix (j:=(lo:Int)) (SR.sv hl hs) (by(try simp only[BS]at N);omega) (by(try simp only[BS]at N);omega))) (be 8 (fun N=>(ql 3 0 (vI (E lo) (by(try simp only[BS]at N);omega)) V V)) Hn_)) V V fun _=>aj ⟨.inr V,_,V,((decide ((lo:Int)<(l.length:Int)))&&((l.getD lo 0)==n)),V,V,(by exact con_fin ha X h1 h2 h3 _ (by simp<;>omega))⟩
theorem dZ{E:Option Addr}{N:Nat}(l:List Int)(n:Int)(hs:HS (.of H []) F H [] R)(hl:SR F (sL E l.length N) l)(hn:in64 n)(U:TB 37 tabC F)(Z:Asc l)(T:l.length<=1073741824):kKt ex 141 [(sL E l.length N),(iI n)] H fun v H'=>v=(.bool (jJ l n))/\H'=H:=
 cq (jr ex l n hs hl hn U Z T) (by rintro _ _ ⟨_,rfl,rfl,rfl⟩;exact⟨V,V⟩)
theorem without_c{ad:Option Addr}{ai:Nat}(l:List Int)(n:Int)(hs:HS (.of H []) F H [] R)(hl:SR F (sL ad l.length ai) l)(hn:in64 n)(hT:TB 37 tabC F)(b7:l.length<=1073741824):kKt ex 142 [(sL ad l.length ai),(iI n)] H fun v H'=> ∃(ar:Option Addr) (kr:Nat) (r:List Int) (p:Fp) (F':Fz),Fz.le F F'/\HS (.of H []) F' H' [p] R/\v=sL ar r.length kr/\OS F' (sL ar r.length kr) r p/\r=gT l [n]:=by
 refine aC Tryz.func142 V V (am 1 V (wT 2 [] 4 4 [] [(4,(sL none 0 0))] V fun _=>wT 3 [] 1 0 [5] [(5,(sL none 0 0))] V fun _=>wT 2 [] 8 10 [] [(8,(sL ad l.length ai)),(9,(iI (l.length:Int))),(10,(iI 0))] V fun _=>?_));have a2:=HS.snoc hs;refine ak (fun(mm:Nat) f H'=> ∃(o:List Int) (i:Nat) (E:Option Addr) (N:Nat) (T:Fp) (F':Fz),Fz.le F F'/\HS (Base.of H []) F' H' [T] R/\OS F' (sL E o.length N) o T/\aB f [(1,(iI n)),(5,(sL E o.length N)),(8,(sL ad l.length ai)),(9,(iI (l.length:Int))),(10,(iI (i:Int)))]/\mm=l.length-i/\(i<=l.length)/\(o=gT (l.take i) [n])) _ ⟨([]:List Int),0,none,0,[],_,fR,a2,(OS.nil:OS _ (sL none 0 0) ([]:List Int) []),⟨V,V,V,V,V,trivial⟩,V,M,m_⟩ ?_;rintro bk f4 H4 ⟨o,i,E,N,T,F4,Z,a_,U,aq,rfl,h1,h2⟩ aw;refine au _ aq (fun _=>?_);clear aq;replace hl:=hl.mono Z;have n4:o.length<=l.length:=by rw[h2];exact a0e min_len l_
 refine am 1 V (wT 2 [] 11 11 [] [(11,(.bool (decide ((i:Int)<(l.length:Int)))))] V fun _=>zd 4 5 (fun c7=>?_) fun c7=>?_)
 ·obtain⟨a9,av⟩:=Sv.view (SR.sv hl a_);have g9:=fI (av i);refine wrp 2 12 13 [7] [(7,(iI (l.getD i 0)))] (Ha_ (Sv.ix (j:=(i:Int)) (SR.sv hl a_)) (Hl_ 1 (ql 3 0 (vI (av i)) V V) Hn_)) (by kernel_rfl) V fun _=>wT 1 [] 14 16 [] [(16,(.bool ((l.getD i 0) !=n)))] V fun _=>zi 0 2 (fun aa=>?_) fun aa=>?_
  ·try simp only[BS]at aa
   refine ab (wTo 2 0 [] 17 18 [] [(17,(sL E o.length N)),(18,(iI (l.getD i 0)))] V fun _=>zlo ([(l.getD i 0)]:List Int) a_ V (RL.cs ⟨V,by omega⟩ RL.nl) V fun a8 bb bl a5 ay ag=>zao 0 U ag (OS.sv ay ag (i:=1) V) V V V M fun ap ax a3 a7 aA a1=>za (sL ap (o++([(l.getD i 0)]:List Int)).length ax) (ah 2 V ?_));refine wU 1 [] 10 10 [21] [(10,(iI ((i:Int)+1)))] (vi (n:=(i:Int)+1)) V fun _=>?_
   refine aw _ _ _ ?_ ⟨o++([(l.getD i 0)]:List Int),i+1,ap,ax,a3,_,(Z),(HS.sub a1 (a03 _ _)),aA,⟨V,V,V,V,V,trivial⟩,V,M,((j7 M h2).1 (by rw[con1];exact decide_eq_false X))⟩;omega
  try simp only[BS]at aa
  refine wU 1 [] 10 10 [21] [(10,(iI ((i:Int)+1)))] (vi (n:=(i:Int)+1)) V fun _=>?_
  refine aw _ _ _ ?_ ⟨o,i+1,E,N,T,_,(Z),a_,U,⟨V,V,V,V,V,trivial⟩,V,M,((j7 M h2).2 (by rw[con1];exact decide_eq_true (by simp_all;done)))⟩;omega
 refine wT 1 [] 4 4 [22] [(4,(sL E o.length N))] V fun _=>aj ⟨.inr V,_,V,E,N,o,T,_,(Z),(HS.only a_ (i:=0) V),V,U,(by rw[h2,a0i M])⟩
theorem dz{ad:Option Addr}{ai:Nat}(l:List Int)(n:Int)(hs:HS (.of H []) F H [] R)(hl:SR F (sL ad l.length ai) l)(hn:in64 n)(hT:TB 37 tabC F)(ha:Asc l)(f1:l.length<=1000000):kKt ex 140 [(sL ad l.length ai),(iI n)] H fun v H'=> ∃(ar:Option Addr) (kr:Nat) (r:List Int) (F':Fz),Fz.le F F'/\HS (.of H []) F' H' [] R/\v=sL ar r.length kr/\SR F' (sL ar r.length kr) r/\r=dB l n:=by
 refine aC Tryz.func140 V V (am 1 V (wT 3 [] 4 4 [] [(4,(sL none 0 0))] V fun _=>wU 1 [(2,.o (.bool (jJ l n)))] 6 8 [] [(8,(.bool (jJ l n)))] (dZ ex l n (HS.call hs) hl M hT M M) V fun _=>zi 1 2 (fun c3=>?_) fun c3=>?_))
 ·try simp only[BS]at c3
  have hc:=c3;refine wT 1 [] 4 4 [9] [(4,(sL ad l.length ai))] V fun _=>aj ⟨.inr V,_,V,ad,ai,l,_,fR,(HS.forget hs),V,hl,(ins_in ha (by simpa using hc)).symm⟩
 try simp only[BS]at c3
 have hc:=c3;refine wT 3 [] 1 0 [5] [(5,(iI 0))] V fun _=>ak (fun(mm:Nat) f H'=> ∃(k:Nat),H'=H/\aB f [(0,(sL ad l.length ai)),(1,(iI n)),(5,(iI (k:Int)))]/\mm=l.length-k/\(k<=l.length)/\(∀j,j<k->l.getD j 0<n)) _ ⟨0,V,⟨V,V,V,trivial⟩,V,M,(by intro j hj;omega)⟩ ?_
 rintro d2 f6 H ⟨k,rfl,ax,rfl,h1,h2⟩ b6;refine au _ ax (fun _=>?_);clear ax;refine am 2 V ?_;obtain⟨dl,ay⟩:=Sv.view (SR.sv hl hs);have g8:=fI (ay k);refine wrp 1 10 21 [] [(21,(.bool ((decide ((k:Int)<(l.length:Int)))&&(decide ((l.getD k 0)<n)))))] (Ha_ (fun(g1:(decide ((k:Int)<(l.length:Int)))=true)=>(Sv.ix (j:=(k:Int)) (SR.sv hl hs) (by(try simp only[BS]at g1);omega) (by(try simp only[BS]at g1);omega))) (be 8 (fun g1=>(ql 3 0 (vI (ay k) (by(try simp only[BS]at g1);omega)) V V)) Hn_)) V V fun _=>zi 2 5 (fun an=>?_) fun an=>?_
 ·try simp only[BS]at an
  refine wU 2 [] 22 23 [5] [(5,(iI ((k:Int)+1)))] (vi (n:=(k:Int)+1)) V fun _=>?_
  refine b6 _ _ _ ?_ ⟨k+1,V,⟨V,V,V,trivial⟩,V,M,(lt_succ h2 M)⟩;omega
 try simp only[BS]at an
 refine aL V (zld ([]:List Int) hs V RL.nl V fun c7 dn ef a1 a4 a_=>zfm (sL ad l.length ai) (zfm (iI (k:Int)) (fu (id:= .q fun b=>F b≠none) (ns (α:=Int) (j:=k) hl a_.log0 V V V (optN M) M) V V (by rintro _ _ _ ⟨_,_,_,hH,_⟩;exact did_q V (SR.q hl)) (kb V) ?_)));rintro _ _ _ ⟨c8,ds,rfl,E,a9⟩ b2 aq;simp only at E;replace E:=E.symm;subst E;have T:=HS.lg a_.log0 a_ aq;generalize ({{a1 with log:=[]} with log:=b2}:Heap)=b9 at T⊢;refine zad 0 a4 T (SR.sv a9 T) V V V s_ (kb V) fun b4 b7 b8 cc U bl=>?_
 have U:OS F (sL b4 (l.take k).length b7) (l.take k) b8:=U;refine zfm (iI n) (zld ([n]:List Int) bl V (RL.cs ⟨V,by omega⟩ RL.nl) V fun c9 dt et cg a5 Z=>zad 0 U Z (OS.sv a5 Z (i:=1) V) V V V s_ (kb V) fun dd dv ez a2 a7 aa=>zfm (sL ad l.length ai) (zfm (iI (k:Int)) (fu (id:= .q fun b=>F b≠none) (rs_cutd (α:=Int) (i:=k) hl aa.log0 V V V (optN M) M) V V (by rintro _ _ _ ⟨_,_,_,hH,_⟩;exact did_q V (SR.q hl)) (⟨.inl V,.inl V,.inr (HS.apq Z (i:=0) V),.inr trivial,.inr trivial,.inr (HS.apq T (i:=0) V),q_⟩) ?_)));rintro _ _ _ ⟨dk,d1,rfl,N,bb⟩ b3 av;simp only at N;replace N:=N.symm;subst N;have ag:=HS.lg aa.log0 aa av;generalize ({{a2 with log:=[]} with log:=b3}:Heap)=ch at ag⊢;refine zad 0 a7 ag (SR.sv bb ag) V V V s_ (kb V) fun aw aA e0 ci a8 bz=>fa (sL aw (((l.take k)++([n]:List Int))++(l.drop k)).length aA) V V V (gS (am 1 V ?_))
 obtain⟨c6,a3,b1,bk,c5⟩:=OS.frz a8 bz (i:=0) V;refine aj ⟨.inr V,_,V,aw,aA,((l.take k)++([n]:List Int))++(l.drop k),_,(a3),(HS.forget b1),V,bk,(ins_new (pre_eq h1 h2 M) (fun hh=>absurd (con_at hh.1 hh.2) (by simpa using hc)))⟩
theorem points_c{aq:Option Addr}{av:Nat}(c:VFnT)(hs:HS (.of H []) F H [] R)(mk:in64 c.m)(mx:in64 c.r)(cc:SR F (sL aq c.u.length av) c.u)(hT:TB 37 tabC F)(hA:ca c=true)(hx: ∀j,(c.u.getD j v_).v.length<=1073741822):kKt ex 115 [(aG [(iI c.m),(iI c.r),(sL aq c.u.length av)])] H fun v H'=> ∃(jb:Option Addr) (jp:Nat) (ps:List (List (List Int))) (p:Fp) (F':Fz),Fz.le F F'/\HS (.of H []) F' H' [p] R/\v=sL jb ps.length jp/\OS F' (sL jb ps.length jp) ps p/\(PsF c ps):=by
 have vF:=e7 hA;have pC:=vF.nb;have hz:=vF.r;refine aC Tryz.func115 V V (am 1 V (ab (bd (aR hs V V) V V ?_)));rintro _ H2 _ ⟨b1,rfl,he,_⟩;refine za (sL none 0 0) (ah 2 V (ab (aY 1 0 16 16 [] [(16,(aG [(iI c.m),(iI c.r),(sL aq c.u.length av)]))] (Hr_ 0 0 Hn_) he V V fun _=>zc (md.blocks_c ex c (HS.call he) M M cc hT (fun j=>a0e (hx j) M)) ?_)));rintro _ H4 ⟨oP,o4,x4,c6,c7,y4,F4,go,e5,rfl,nm,dk,o2,o1⟩;replace e5:=HS.back he V e5;refine bL 5 2 18 19 [3,4,15] [(4,(sL c6 y4.length c7))] Hn_ (by kernel_rfl) V fun _=>ah 2 V ?_
 have bk:BkF c _ y4:=(by assumption:ca c=true->_) hA;have pB:=bk.ly;refine wT 3 [] 1 0 [5] [(5,(sL none 0 0))] V fun _=>aU 2 20 23 [] [(21,(sL aq c.u.length av)),(22,(iI (c.u.length:Int))),(23,(iI 0))] (Hr_ 1 0 Hn_) e5 V V fun _=>?_
 have ka:=HS.snoc e5;let dv:Fp:=(fP b1 [(iI c.m),(iI c.r),(sL aq c.u.length av)])
 refine ak (fun(mm:Nat) f H'=> ∃(al:List (List (List Int))) (k:Nat) (T:Option Addr) (U:Nat) (an:Fp) (F':Fz),Fz.le F4 F'/\HS (Base.of H []) F' H' [dv,an] R/\OS F' (sL T al.length U) al an/\aB f [(4,(sL c6 y4.length c7)),(5,(sL T al.length U)),(21,(sL aq c.u.length av)),(22,(iI (c.u.length:Int))),(23,(iI (k:Int)))]/\mm=c.u.length-k/\(al.length=k)/\(k<=c.u.length)/\(∀b,b<k->PtX c b (al.getD b v_))) _ ⟨([]:List (List (List Int))),0,none,0,[],_,fR,ka,(OS.nil:OS _ (sL none 0 0) ([]:List (List (List Int))) []),⟨V,V,V,V,V,trivial⟩,V,m_,M,(by intro b hb;omega)⟩ ?_;rintro o5 f8 H8 ⟨al,k,T,U,an,F8,ds,e6,a4,hH,rfl,e1,hk,e2⟩ kc;refine au _ hH (fun _=>?_);clear hH;replace hT:=(hT.mono go).mono ds;replace cc:=(cc.mono go).mono ds;replace dk:=dk.mono ds;refine am 1 V (wT 2 [] 24 24 [] [(24,(.bool (decide ((k:Int)<(c.u.length:Int)))))] V fun _=>zd 4 5 (fun it=>?_) fun it=>?_)
 ·refine ab ?_;obtain⟨c8,hh⟩:=Sv.view (SR.sv cc e6);obtain⟨ko,kp,kr,kx,ap⟩:=BlkT.fx (hh k);refine bL 3 0 25 27 [] [(25,(iI (k:Int))),(27,(aG [(sL (cA (c8 k) 0) (c.u.getD k v_).v.length (cK (c8 k) 0)),(iI (c.u.getD k v_).f),(iI (c.u.getD k v_).r),(iI (c.u.getD k v_).t),(iI (c.u.getD k v_).e)]))] (Ha_ (Sv.ix (j:=(k:Int)) (SR.sv cc e6)) (Hl_ 2 (qn 82 0 5 (BlkT.vw (hh k)) V V V V) Hn_)) (by kernel_rfl) V fun _=>zn e6 V fun dl ot hY=>sgo 2 4 1 0 [6] [(6,(iI (k:Int)))] (Hr_ 5 2 Hn_) hY V V fun l8 ou ha=>ah 2 V ?_
  have ao:k<c.u.length:=M
  have pz:=hx k;have pD:(List.replicate ((c.u.getD k v_).v.length+2) ([]:List Int)).length=(c.u.getD k v_).v.length+2:=a0O;have jk:((c.u.getD k v_).f=2\/(c.u.getD k v_).f=3)->0<=(c.u.getD k v_).r/\(c.u.getD k v_).r<c.r:=vF.f k ao;have pG:=Lst.len (bk.hy k ao) hz.1 (fun r h=>jf vF h);have pF:=(bk.hy k ao).asc;refine ab (aY 4 0 28 31 [] [(31,(iI (((c.u.getD k v_).v.length:Int)+2)))] (Hr_ 1 2 (Ha_ (vi (n:=((c.u.getD k v_).v.length:Int)+2)) Hn_)) ha V V fun _=>bd (cQ ([]:(List Int)) ha V V V V V V V V V ⟨none,0,V,SR.nil⟩ M M) V V ?_);rintro _ ov kd ⟨a5,a7,rfl,dd,ch,_⟩;have dd:OS F8 (sL a5 (List.replicate ((c.u.getD k v_).v.length+2) ([]:(List Int))).length a7) (List.replicate ((c.u.getD k v_).v.length+2) ([]:(List Int))) kd:=dd;refine za (sL a5 (List.replicate ((c.u.getD k v_).v.length+2) ([]:(List Int))).length a7) (ah 2 V ?_);obtain⟨ar,hj⟩:=Sv.view (SR.sv dk ch);have hw:=fL (hj k);refine wrp 2 33 36 [9] [(9,(sL (cA (ar k) 0) (y4.getD k v_).length (cK (ar k) 0)))] (Ha_ (Sv.ix (j:=(k:Int)) (SR.sv dk ch)) (Hl_ 3 (ql 22 0 (vL (hj k)) V V) Hn_)) (by kernel_rfl) V fun _=>ab (aY 7 0 37 43 [] [(42,(sL (cA (ar k) 0) (y4.getD k v_).length (cK (ar k) 0))),(43,(.pointer (some ⟨sB (sL a5 (List.replicate ((c.u.getD k v_).v.length+2) ([]:(List Int))).length a7),sO (sL a5 (List.replicate ((c.u.getD k v_).v.length+2) ([]:(List Int))).length a7)+((c.u.getD k v_).v.length+1) *Rp.sz (List Int),none⟩)))] (Hr_ 2 2 (Ha_ (vi (n:=((c.u.getD k v_).v.length:Int)+1)) (Ha_ (Sv.ix (j:=((c.u.getD k v_).v.length:Int)+1) (OS.sv dd ch (i:=3) V)) Hn_))) ch V V fun _=>gf (dm (α:=(List Int)) (j:=(c.u.getD k v_).v.length+1) (off:=0) (q:=3) (y4.getD k v_) dd ch V V V V V V V V (bg (x:=v_) M) V (by rintro cs ⟨_,_,rfl,_⟩;exact⟨a0a V,⟨(cA (ar k) 0),(cK (ar k) 0),V,hw⟩⟩)) V ?_)
  rintro _ ow kg ⟨cg,bz,_⟩;have lf:=OS.len' cg;let e8:Fp:=(fP dl [(sL (cA (c8 k) 0) (c.u.getD k v_).v.length (cK (c8 k) 0)),(iI (c.u.getD k v_).f),(iI (c.u.getD k v_).r),(iI (c.u.getD k v_).t),(iI (c.u.getD k v_).e)])
  refine ah 3 V (aU 1 44 51 [] [(51,(.bool (((c.u.getD k v_).f==2)||((c.u.getD k v_).f==3))))] (Hr_ 1 2 (be 5 (fun _=>(ql 3 1 (j_ bz V) V V)) Hn_)) bz V V fun _=>bj (fun f H'=> ∃(s1:List Int) (aw:Option Addr) (aA:Nat) (F':Fz),Fz.le F8 F'/\HS (Base.of H []) F' H' [dv,an,e8,kg] R/\SR F' (sL aw s1.length aA) s1/\aB f [(4,(sL c6 y4.length c7)),(5,(sL T al.length U)),(7,(pT dl 0)),(8,(sL a5 (List.replicate ((c.u.getD k v_).v.length+2) ([]:(List Int))).length a7)),(9,(sL aw s1.length aA)),(21,(sL aq c.u.length av)),(22,(iI (c.u.length:Int))),(23,(iI (k:Int)))]/\(Lst s1 (ptS c k (c.u.getD k v_).v.length))) (fun hr=>?_) ?_)
  ·refine zi 0 0 (fun dn=>?_) fun dn=>?_
   ·try simp only[BS]at dn
    have el:=dn;have pA:=jk el;refine ab (aY 3 0 52 54 [] [(52,(sL (cA (ar k) 0) (y4.getD k v_).length (cK (ar k) 0))),(54,(iI (c.u.getD k v_).r))] (Hr_ 2 2 Hn_) bz V V fun _=>zc (dz ex (y4.getD k v_) (c.u.getD k v_).r (HS.call bz) hw M hT M M) ?_);rintro _ oy ⟨fd,ht,o8,n4,hO,et,rfl,hB,rfl⟩;replace et:=HS.back bz V et;refine za (sL fd (dB (y4.getD k v_) (c.u.getD k v_).r).length ht) (ah 0 V ?_);exact hr _ _ ⟨dB (y4.getD k v_) (c.u.getD k v_).r,fd,ht,_,(hO),et,hB,⟨V,V,V,V,V,V,V,V,trivial⟩,(end_yes2 (bk.hy k ao) el (jk el).1)⟩
   try simp only[BS]at dn
   have el:=dn;exact hr _ _ ⟨(y4.getD k v_),(cA (ar k) 0),(cK (ar k) 0),_,fR,bz,hw,⟨V,V,V,V,V,V,V,V,trivial⟩,(end_no2 (bk.hy k ao) (show ¬((c.u.getD k v_).f=2\/(c.u.getD k v_).f=3) by omega))⟩
  skip;rintro oQ ox ⟨s1,aw,aA,ib,b6,ef,dt,g6,hI⟩;refine au _ g6 (fun _=>?_);clear g6;replace cg:=cg.mono b6;refine am 2 V (ab (aY 6 0 56 61 [] [(60,(sL aw s1.length aA)),(61,(.pointer (some ⟨sB (sL a5 (List.replicate ((c.u.getD k v_).v.length+2) ([]:(List Int))).length a7),sO (sL a5 (List.replicate ((c.u.getD k v_).v.length+2) ([]:(List Int))).length a7)+(c.u.getD k v_).v.length *Rp.sz (List Int),none⟩)))] (Hr_ 2 2 (Ha_ (Sv.ix (j:=((c.u.getD k v_).v.length:Int)) (OS.sv cg ef (i:=3) V)) Hn_)) ef V V fun _=>gf (dm (α:=(List Int)) (j:=(c.u.getD k v_).v.length) (off:=0) (q:=3) s1 cg ef V V V V V V V V (bg (x:=v_) M) V (by rintro cs ⟨_,_,rfl,_⟩;exact⟨a0a V,⟨aw,aA,V,dt⟩⟩)) V ?_));rintro _ oz ki ⟨d1,hf,_⟩;have lr:=OS.len' d1;refine ah 3 V (aU 2 62 65 [10] [(10,(iI (((c.u.getD k v_).v.length:Int)-1)))] (Hr_ 1 2 (Ha_ (vi (n:=((c.u.getD k v_).v.length:Int)-1)) Hn_)) hf V V fun _=>ak (fun(mm:Nat) f H'=> ∃(sw:List Int) (pl:List (List Int)) (iz:Int) (bb:Option Addr) (bl:Nat) (E:Option Addr) (N:Nat) (a2:Fp) (F':Fz),Fz.le ib F'/\HS (Base.of H []) F' H' [dv,an,e8,a2] R/\SR F' (sL bb sw.length bl) sw/\OS F' (sL E pl.length N) pl a2/\aB f [(4,(sL c6 y4.length c7)),(5,(sL T al.length U)),(7,(pT dl 0)),(8,(sL E pl.length N)),(9,(sL bb sw.length bl)),(10,(iI iz)),(21,(sL aq c.u.length av)),(22,(iI (c.u.length:Int))),(23,(iI (k:Int)))]/\mm=(iz+1).toNat/\(pl.length=(c.u.getD k v_).v.length+2)/\(-1<=iz/\iz<((c.u.getD k v_).v.length:Int))/\(∀j,(iz+1).toNat<=j->j<=(c.u.getD k v_).v.length->Lst (dp pl j) (ptS c k j))/\(Lst (dp pl ((c.u.getD k v_).v.length+1)) (mW c k))/\(Lst sw (ptS c k (iz+1).toNat))) _ ⟨s1,((List.replicate ((c.u.getD k v_).v.length+2) ([]:(List Int))).set ((c.u.getD k v_).v.length+1) (y4.getD k v_)).set (c.u.getD k v_).v.length s1,((c.u.getD k v_).v.length:Int)-1,aw,aA,a5,a7,ki,_,fR,hf,dt,(OS.norm d1),(agC V (agC V (agC V (agC (show Value.slice a5 (List.replicate ((c.u.getD k v_).v.length+2) ([]:(List Int))).length a7=Value.slice a5 (((List.replicate ((c.u.getD k v_).v.length+2) ([]:(List Int))).set ((c.u.getD k v_).v.length+1) (y4.getD k v_)).set (c.u.getD k v_).v.length s1).length a7 by rw[OS.len' d1]) ⟨V,V,V,V,V,trivial⟩)))),V,o_,M,(fun j h1 h2=>by(rw[show j=(c.u.getD k v_).v.length by omega,cR o_,if_pos rfl];exact hI)),(by rw[cR o_,if_neg M,cR o_,if_pos rfl];exact bk.hy k ao),(by rw[show((((c.u.getD k v_).v.length:Nat):Int)-1+1).toNat=(c.u.getD k v_).v.length by omega];exact hI)⟩ ?_);rintro n1 oR oD ⟨sw,pl,iz,bb,bl,E,N,a2,n6,b7,b2,ci,aa,g7,rfl,f1,f2,f3,f4,f5⟩ h6;refine au _ g7 (fun _=>?_);clear g7;replace hT:=(hT.mono b6).mono b7;replace a4:=(a4.mono b6).mono b7;replace ap:=(ap.mono b6).mono b7;refine am 2 V (wT 1 [] 66 67 [] [(67,(.bool (decide ((0:Int)<=iz))))] V fun _=>zd 5 4 (fun i1=>?_) fun i1=>?_)
  ·have jo:iz.toNat<(c.u.getD k v_).v.length:=M
   have il:(∀x∈aF ((c.u.getD k v_).v.getD iz.toNat v_),0<=x/\x<c.r)/\(∀x∈ae ((c.u.getD k v_).v.getD iz.toNat v_),0<=x/\x<c.r)/\((c.u.getD k v_).v.getD iz.toNat v_).args.length<=6:=bF (vF.v k ao iz.toNat jo);have nx:=il.2.2;have pE:=dI (v:=((c.u.getD k v_).v.getD iz.toNat v_));have ne:=eF (v:=((c.u.getD k v_).v.getD iz.toNat v_));refine ab ?_;obtain⟨f6,hl⟩:=Sv.view (SR.sv ap b2);obtain⟨ky,kz,k0,k3,k4,hE⟩:=VInT.fx (hl iz.toNat);refine aY 5 0 70 74 [] [(74,(aG [(iI ((c.u.getD k v_).v.getD iz.toNat v_).i.op),(iI ((c.u.getD k v_).v.getD iz.toNat v_).i.a),(iI ((c.u.getD k v_).v.getD iz.toNat v_).i.b),(iI ((c.u.getD k v_).v.getD iz.toNat v_).i.c),(iI ((c.u.getD k v_).v.getD iz.toNat v_).i.n),(sL (cA (f6 iz.toNat) 5) ((c.u.getD k v_).v.getD iz.toNat v_).args.length (cK (f6 iz.toNat) 5))]))] (Hr_ 1 2 (Ha_ (Sv.ix (j:=iz) (SR.sv ap b2)) (Hl_ 4 (qn 88 0 6 (VInT.vw (hl iz.toNat)) V V V V) Hn_))) b2 V V fun _=>zc (ma.iB ex ((c.u.getD k v_).v.getD iz.toNat v_) (HS.call b2) M M M M M hE hT) ?_
   rintro _ oE ⟨hL,h8,o9,hK,ih,b8,ez,rfl,b4,rfl⟩;replace ez:=HS.back b2 V ez;replace ci:=ci.mono b8;refine bL 2 6 76 77 [] [(76,(iI ((ae ((c.u.getD k v_).v.getD iz.toNat v_)).length:Int))),(77,(iI 0))] Hn_ (by kernel_rfl) V fun _=>ah 2 V (ak (fun(mm:Nat) f H'=> ∃(w1:List Int) (q:Nat) (ax:Option Addr) (a1:Nat) (F':Fz),Fz.le ih F'/\HS (Base.of H []) F' H' [dv,an,e8,a2,hK] R/\SR F' (sL ax w1.length a1) w1/\aB f [(4,(sL c6 y4.length c7)),(5,(sL T al.length U)),(7,(pT dl 0)),(8,(sL E pl.length N)),(9,(sL ax w1.length a1)),(10,(iI iz)),(21,(sL aq c.u.length av)),(22,(iI (c.u.length:Int))),(23,(iI (k:Int))),(75,(sL hL (ae ((c.u.getD k v_).v.getD iz.toNat v_)).length h8)),(76,(iI ((ae ((c.u.getD k v_).v.getD iz.toNat v_)).length:Int))),(77,(iI (q:Int)))]/\mm=(ae ((c.u.getD k v_).v.getD iz.toNat v_)).length-q/\(Lst w1 (wrS (ptS c k (iz.toNat+1)) (ae ((c.u.getD k v_).v.getD iz.toNat v_)) q))/\(q<=(ae ((c.u.getD k v_).v.getD iz.toNat v_)).length)) _ ⟨sw,0,bb,bl,_,fR,ez,ci,⟨V,V,V,V,V,V,V,V,V,V,V,V,trivial⟩,V,(wr_zero (by rw[show iz.toNat+1=(iz+1).toNat by omega];exact f5)),M⟩ ?_)
   rintro n2 oT oF ⟨w1,q,ax,a1,oa,a8,a_,ay,g8,rfl,g1,g2⟩ hq;refine au _ g8 (fun _=>?_);clear g8;replace hT:=(hT.mono b8).mono a8;replace b4:=b4.mono a8;replace aa:=(aa.mono b8).mono a8;replace ap:=(ap.mono b8).mono a8;have oW:=Lst.len g1 hz.1 (fun r h=>wr_lt (fun r h=>iG vF ao h) h);have oV:=g1.asc;refine am 1 V (wT 2 [] 78 78 [] [(78,(.bool (decide ((q:Int)<((ae ((c.u.getD k v_).v.getD iz.toNat v_)).length:Int)))))] V fun _=>zd 4 6 (fun i2=>?_) fun i2=>?_)
   ·obtain⟨l3,hm⟩:=Sv.view (OS.sv b4 a_ (i:=4) V);have oZ:=fI (hm q);refine wrp 2 79 80 [12] [(12,(iI ((ae ((c.u.getD k v_).v.getD iz.toNat v_)).getD q 0)))] (Ha_ (Sv.ix (j:=(q:Int)) (OS.sv b4 a_ (i:=4) V)) (Hl_ 1 (ql 3 0 (vI (hm q)) V V) Hn_)) (by kernel_rfl) V fun _=>wU 1 [(2,.o (.bool (jJ w1 ((ae ((c.u.getD k v_).v.getD iz.toNat v_)).getD q 0))))] 81 83 [] [(83,(.bool (jJ w1 ((ae ((c.u.getD k v_).v.getD iz.toNat v_)).getD q 0))))] (dZ ex w1 ((ae ((c.u.getD k v_).v.getD iz.toNat v_)).getD q 0) (HS.call a_) ay M hT M M) V fun _=>zi 0 2 (fun f0=>?_) fun f0=>?_
    ·try simp only[BS]at f0
     refine ab (wTo 2 0 [] 84 85 [] [(84,(sL ax w1.length a1)),(85,(iI ((ae ((c.u.getD k v_).v.getD iz.toNat v_)).getD q 0)))] V fun _=>zc (without_c ex w1 ((ae ((c.u.getD k v_).v.getD iz.toNat v_)).getD q 0) (HS.call a_) ay M hT M) ?_);rintro _ oG ⟨fi,hu,pc,o6,ob,hP,e0,rfl,hC,rfl⟩;replace e0:=HS.back a_ V e0;refine za (sL fi (gT w1 [((ae ((c.u.getD k v_).v.getD iz.toNat v_)).getD q 0)]).length hu) (ah 2 V (wU 1 [] 77 77 [87] [(77,(iI ((q:Int)+1)))] (vi (n:=(q:Int)+1)) V fun _=>?_));obtain⟨oc,hQ,h0,hW,mI⟩:=OS.frz hC e0 (i:=5) V;refine hq _ _ _ ?_ ⟨gT w1 [((ae ((c.u.getD k v_).v.getD iz.toNat v_)).getD q 0)],q+1,fi,hu,_,(fT (fT (a8) hP) hQ),(HS.sub h0 (a03 _ _)),hW,⟨V,V,V,V,V,V,V,V,V,V,V,V,trivial⟩,V,(wr_yes M g1),M⟩;omega
    try simp only[BS]at f0
    refine wU 1 [] 77 77 [87] [(77,(iI ((q:Int)+1)))] (vi (n:=(q:Int)+1)) V fun _=>?_
    refine hq _ _ _ ?_ ⟨w1,q+1,ax,a1,_,(a8),a_,ay,⟨V,V,V,V,V,V,V,V,V,V,V,V,trivial⟩,V,(wr_no M (by simp_all;done) g1),M⟩;omega
   refine ab ?_;obtain⟨f7,hn⟩:=Sv.view (SR.sv ap a_);obtain⟨k5,k6,k7,k8,k9,hF⟩:=VInT.fx (hn iz.toNat);refine aY 5 0 88 92 [] [(92,(aG [(iI ((c.u.getD k v_).v.getD iz.toNat v_).i.op),(iI ((c.u.getD k v_).v.getD iz.toNat v_).i.a),(iI ((c.u.getD k v_).v.getD iz.toNat v_).i.b),(iI ((c.u.getD k v_).v.getD iz.toNat v_).i.c),(iI ((c.u.getD k v_).v.getD iz.toNat v_).i.n),(sL (cA (f7 iz.toNat) 5) ((c.u.getD k v_).v.getD iz.toNat v_).args.length (cK (f7 iz.toNat) 5))]))] (Hr_ 1 2 (Ha_ (Sv.ix (j:=iz) (SR.sv ap a_)) (Hl_ 4 (qn 88 0 6 (VInT.vw (hn iz.toNat)) V V V V) Hn_))) a_ V V fun _=>zc (ma.mZ ex ((c.u.getD k v_).v.getD iz.toNat v_) (HS.call a_) M M M M M hF hT M) ?_
   rintro _ oH ⟨hM,h9,pd,kk,ik,c9,e3,rfl,b5,rfl⟩;replace e3:=HS.back a_ V e3;replace ay:=ay.mono c9;refine bL 2 6 94 95 [] [(94,(iI ((aF ((c.u.getD k v_).v.getD iz.toNat v_)).length:Int))),(95,(iI 0))] Hn_ (by kernel_rfl) V fun _=>ah 2 V (ak (fun(mm:Nat) f H'=> ∃(w2:List Int) (p:Nat) (Z:Option Addr) (ag:Nat) (F':Fz),Fz.le ik F'/\HS (Base.of H []) F' H' [dv,an,e8,a2,hK,kk] R/\SR F' (sL Z w2.length ag) w2/\aB f [(4,(sL c6 y4.length c7)),(5,(sL T al.length U)),(7,(pT dl 0)),(8,(sL E pl.length N)),(9,(sL Z w2.length ag)),(10,(iI iz)),(21,(sL aq c.u.length av)),(22,(iI (c.u.length:Int))),(23,(iI (k:Int))),(93,(sL hM (aF ((c.u.getD k v_).v.getD iz.toNat v_)).length h9)),(94,(iI ((aF ((c.u.getD k v_).v.getD iz.toNat v_)).length:Int))),(95,(iI (p:Int)))]/\mm=(aF ((c.u.getD k v_).v.getD iz.toNat v_)).length-p/\(Lst w2 (rdS (wrS (ptS c k (iz.toNat+1)) (ae ((c.u.getD k v_).v.getD iz.toNat v_)) q) (aF ((c.u.getD k v_).v.getD iz.toNat v_)) p))/\(p<=(aF ((c.u.getD k v_).v.getD iz.toNat v_)).length)) _ ⟨w1,0,ax,a1,_,fR,e3,ay,⟨V,V,V,V,V,V,V,V,V,V,V,V,trivial⟩,V,(rd_zero g1),M⟩ ?_)
   rintro n3 oU oI ⟨w2,p,Z,ag,oh,b9,b3,co,g9,rfl,g3,g4⟩ h7;refine au _ g9 (fun _=>?_);clear g9;replace hT:=(hT.mono c9).mono b9;replace b5:=b5.mono b9;replace aa:=(aa.mono c9).mono b9;have oY:=Lst.len g3 hz.1 (fun r h=>rd_lt (fun r h=>wr_lt (fun r h=>iG vF ao h) h) il.1 h);have oX:=g3.asc;refine am 1 V (wT 2 [] 96 96 [] [(96,(.bool (decide ((p:Int)<((aF ((c.u.getD k v_).v.getD iz.toNat v_)).length:Int)))))] V fun _=>zd 4 4 (fun i3=>?_) fun i3=>?_)
   ·obtain⟨l4,hp⟩:=Sv.view (OS.sv b5 b3 (i:=5) V);have o0:=fI (hp p);refine wrp 1 97 98 [14] [(14,(iI ((aF ((c.u.getD k v_).v.getD iz.toNat v_)).getD p 0)))] (Ha_ (Sv.ix (j:=(p:Int)) (OS.sv b5 b3 (i:=5) V)) (Hl_ 1 (ql 3 0 (vI (hp p)) V V) Hn_)) (by kernel_rfl) V fun _=>ab (wTo 2 0 [] 99 100 [] [(99,(sL Z w2.length ag)),(100,(iI ((aF ((c.u.getD k v_).v.getD iz.toNat v_)).getD p 0)))] V fun _=>zc (dz ex w2 ((aF ((c.u.getD k v_).v.getD iz.toNat v_)).getD p 0) (HS.call b3) co M hT M M) ?_)
    rintro _ oJ ⟨fj,hv,pe,ol,hR,e4,rfl,hD,rfl⟩;replace e4:=HS.back b3 V e4;refine za (sL fj (dB w2 ((aF ((c.u.getD k v_).v.getD iz.toNat v_)).getD p 0)).length hv) (ah 2 V (wU 1 [] 95 95 [102] [(95,(iI ((p:Int)+1)))] (vi (n:=(p:Int)+1)) V fun _=>?_));refine h7 _ _ _ ?_ ⟨dB w2 ((aF ((c.u.getD k v_).v.getD iz.toNat v_)).getD p 0),p+1,fj,hv,_,(fT (b9) hR),e4,hD,⟨V,V,V,V,V,V,V,V,V,V,V,V,trivial⟩,V,(rd_yes M (dG il.1 M).1 g3),M⟩;omega
   have dj:Lst w2 (ptS c k iz.toNat):=pt_done jo (show(ae ((c.u.getD k v_).v.getD iz.toNat v_)).length<=q by omega) (show(aF ((c.u.getD k v_).v.getD iz.toNat v_)).length<=p by omega) g3;refine ab (bL 4 0 103 106 [] [(105,(sL Z w2.length ag)),(106,(.pointer (some ⟨sB (sL E pl.length N),sO (sL E pl.length N)+iz.toNat *Rp.sz (List Int),none⟩)))] (Ha_ (Sv.ix (j:=iz) (OS.sv aa b3 (i:=3) V)) Hn_) (by kernel_rfl) V fun _=>gf (dm (α:=(List Int)) (j:=iz.toNat) (off:=0) (q:=3) w2 aa b3 V V V V V V V V (bg (x:=v_) M) V (by rintro cs ⟨_,_,rfl,_⟩;exact⟨a0a V,⟨Z,ag,V,co⟩⟩)) V ?_);rintro _ oK kl ⟨d2,h3,_⟩;have l0:=OS.len' d2;refine ah 2 V (wU 1 [] 68 69 [10] [(10,(iI (iz-1)))] (vi (n:=iz-1)) V fun _=>?_);refine h6 _ _ _ ?_ ⟨w2,pl.set iz.toNat w2,iz-1,Z,ag,E,N,kl,_,(fT (fT (fT (fT (b7) b8) a8) c9) b9),(HS.sub h3 (a03 _ _)),co,(OS.norm d2),(agC V (agC V (agC V (agC (show Value.slice E pl.length N=Value.slice E (pl.set iz.toNat w2).length N by rw[OS.len' d2]) ⟨V,V,V,V,V,trivial⟩)))),V,(by rw[a0h];exact f1),M,(by rw[show(iz-1+1).toNat=iz.toNat by omega];exact pset f1 (fun j h1 h2=>f3 j (show(iz+1).toNat<=j by omega) h2) (show iz.toNat<=(c.u.getD k v_).v.length by omega) dj),(by rw[cR (by rw[f1];omega),if_neg M];exact f4),(by rw[show(iz-1+1).toNat=iz.toNat by omega];exact dj)⟩;omega
  refine ab (wTo 2 0 [] 107 108 [] [(107,(sL T al.length U)),(108,(sL E pl.length N))] V fun _=>?_);obtain⟨oo,g5,h4,hX,m0⟩:=OS.frz aa b2 (i:=3) V;replace a4:=a4.mono g5;refine zlo ([pl]:List (List (List Int))) h4 V (RL.cs ⟨E,N,V,hX⟩ RL.nl) V fun oO o3 o7 oL hS hg=>zao 1 a4 hg (OS.sv hS hg (i:=4) V) V V V M fun hG hJ kn oM hV h5=>za (sL hG (al++([pl]:List (List (List Int)))).length hJ) (ah 2 V (wU 1 [] 23 23 [111] [(23,(iI ((k:Int)+1)))] (vi (n:=(k:Int)+1)) V fun _=>?_))
  refine kc _ _ _ ?_ ⟨al++([pl]:List (List (List Int))),k+1,hG,hJ,kn,_,(fT (fT (fT (ds) b6) b7) g5),(HS.sub h5 (a03 _ _)),hV,⟨V,V,V,V,V,trivial⟩,V,l_,M,(ps_snoc e1 e2 ⟨f1,fun i hi=>f3 i M hi,f4⟩)⟩;omega
 refine wT 1 [] 2 2 [112] [(2,(sL T al.length U))] V fun _=>aj ⟨.inr V,_,V,T,U,al,an,_,(fT (go) ds),(HS.only e6 (i:=1) V),V,a4,(⟨by omega,fun b hb=>e2 b M⟩)⟩
end na
open na
namespace nb
variable (ex:FuncId) {F:Fz} {H:Heap} {R:List Fp}
abbrev lK(c:VFnT)(b i:Nat):VInT:=(bB c b).v.getD i v_
def eok(c:VFnT)(b i:Nat)(a x:Int):Prop:=x≠a/\¬((lK c b i).i.op=10/\x=(lK c b i).i.b)
def edg(c:VFnT)(b i a x:Nat):Prop:=(a:Int)∈ae (lK c b i)/\ptS c b (i+1) x/\eok c b i a x
def E0(c:VFnT)(k a x:Nat):Prop:= ∃b i,b<k/\i<(bB c b).v.length/\edg c b i a x
def E1(c:VFnT)(k n a x:Nat):Prop:=E0 c k a x\/∃i,i<n/\edg c k i a x
def E2(c:VFnT)(k n q a x:Nat):Prop:=E1 c k n a x\/((a:Int)∈(ae (lK c k n)).take q/\ptS c k (n+1) x/\eok c k n a x)
def E3(c:VFnT)(k n q:Nat)(l:List Int)(p a x:Nat):Prop:=E2 c k n q a x\/((a:Int)=(ae (lK c k n)).getD q 0/\(x:Int)∈l.take p/\eok c k n a x)
def j9(c:VFnT)(a x:Nat):Prop:=E0 c c.u.length a x
def Sy(R:Nat->Nat->Prop)(r y:Nat):Prop:=R r y\/R y r
theorem Sy.iff{R E:Nat->Nat->Prop}(h: ∀a x,R a x↔E a x)(r y:Nat):Sy R r y↔Sy E r y:=or_congr (h r y) (h y r)
structure RwF(c:VFnT)(rl:List (List U64))(R:Nat->Nat->Prop):Prop where
 len:rl.length=c.r.toNat
 row: ∀r,r<c.r.toNat->(rl.getD r v_).length=wds c
 bit: ∀r,r<c.r.toNat->∀y,bI rl r y↔Sy R r y
theorem RwF.iff{c:VFnT}{rl:List (List U64)}{R E:Nat->Nat->Prop}(h:RwF c rl R)(k: ∀a x,R a x↔E a x):RwF c rl E:=⟨h.len,h.row,fun r N y=>(h.bit r N y).trans (Sy.iff k r y)⟩
theorem rw_zero{c:VFnT}{rl:List (List U64)}{k:Nat}(E:rl.length=c.r.toNat)(T:c.r.toNat<=k)(h: ∀j,j<k->rl.getD j v_=List.replicate (wds c) ⟨0⟩):RwF c rl (E0 c 0):=by
 refine⟨E,fun r N=>by rw[h r M,a0O],fun r N y=>?_⟩;unfold bI;rw[h r M,bit_rep];constructor
 ·intro h;cases h
 rintro(⟨b,_,h,_⟩|⟨b,_,h,_⟩)<;>exact absurd h (a0B _)
theorem rw_e0{c:VFnT}{rl:List (List U64)}{k n:Nat}(h:RwF c rl (E1 c k n))(U:(bB c k).v.length=n):RwF c rl (E0 c (k+1)):=h.iff fun a x=>by
 unfold E1 E0;constructor
 ·rintro(⟨b,i,N,E⟩|⟨i,N,E⟩)
  ·exact⟨b,i,by omega,E⟩
  exact⟨k,i,a1b _,by omega,E⟩
 rintro⟨b,i,N,E,T⟩;rcases a0g b k with hb|hb
 ·exact .inl ⟨b,i,hb,E,T⟩
 have:b=k:=M
 subst this;exact .inr ⟨i,by omega,T⟩
theorem rw_e1{c:VFnT}{rl:List (List U64)}{k:Nat}(h:RwF c rl (E0 c k)):RwF c rl (E1 c k 0):=h.iff fun a x=>⟨.inl,fun h=>h.elim id fun⟨i,h,_⟩=>absurd h (a0B _)⟩
theorem rw_e1s{c:VFnT}{rl:List (List U64)}{k n q:Nat}(h:RwF c rl (E2 c k n q))(T:(ae (lK c k n)).length<=q):RwF c rl (E1 c k (n+1)):=h.iff fun a x=>by
 unfold E2 E1;rw[a0i T];constructor
 ·rintro((h|⟨i,N,E⟩)|h)
  ·exact .inl h
  ·exact .inr ⟨i,by omega,E⟩
  exact .inr ⟨n,a1b _,h⟩
 rintro(h|⟨i,N,E⟩)
 ·exact .inl (.inl h)
 rcases a0g i n with hi|hi
 ·exact .inl (.inr ⟨i,hi,E⟩)
 have:i=n:=M
 subst this;exact .inr E
theorem rw_e2{c:VFnT}{rl:List (List U64)}{k n:Nat}(h:RwF c rl (E1 c k n)):RwF c rl (E2 c k n 0):=h.iff fun a x=>⟨.inl,fun h=>h.elim id fun h=>by simp at h⟩
theorem rw_e2s{c:VFnT}{rl:List (List U64)}{k n q p:Nat}{l:List Int}(U:Lst l (ptS c k (n+1)))(h:RwF c rl (E3 c k n q l p))(hq:q<(ae (lK c k n)).length)(Z:l.length<=p):RwF c rl (E2 c k n (q+1)):=h.iff fun a x=>by
 unfold E3 E2;rw[a0i Z,aX hq (d:=0),a07,a08,U.mem];have e:((x:Int)).toNat=x:=M
 rw[e];constructor
 ·rintro((h|⟨E,N,T⟩)|⟨E,⟨_,N⟩,T⟩)
  ·exact .inl h
  ·exact .inr ⟨.inl E,N,T⟩
  exact .inr ⟨.inr E,N,T⟩
 rintro(h|⟨E|E,N,T⟩)
 ·exact .inl (.inl h)
 ·exact .inl (.inr ⟨E,N,T⟩)
 exact .inr ⟨E,⟨by omega,N⟩,T⟩
theorem rw_e3{c:VFnT}{rl:List (List U64)}{k n q:Nat}{l:List Int}(h:RwF c rl (E2 c k n q)):RwF c rl (E3 c k n q l 0):=h.iff fun a x=>⟨.inl,fun h=>h.elim id fun h=>by simp at h⟩
theorem ji{c:VFnT}{k n q p:Nat}{l:List Int}(U:p<l.length)(a x:Nat):E3 c k n q l (p+1) a x↔(E3 c k n q l p a x\/((a:Int)=(ae (lK c k n)).getD q 0/\(x:Int)=l.getD p 0/\eok c k n a x)):=by
 unfold E3;rw[aX U (d:=0),a07,a08];constructor
 ·rintro(h|⟨N,E|E,T⟩)
  ·exact .inl (.inl h)
  ·exact .inl (.inr ⟨N,E,T⟩)
  exact .inr ⟨N,E,T⟩
 rintro((h|⟨N,E,T⟩)|⟨N,E,T⟩)
 ·exact .inl h
 ·exact .inr ⟨N,.inl E,T⟩
 exact .inr ⟨N,.inr E,T⟩
theorem rw_no{c:VFnT}{rl:List (List U64)}{k n q p:Nat}{l:List Int}(Z:p<l.length)(h:RwF c rl (E3 c k n q l p))(U: ¬eok c k n ((ae (lK c k n)).getD q 0) (l.getD p 0)):RwF c rl (E3 c k n q l (p+1)):=h.iff fun a x=>by rw[ji Z];exact⟨.inl,fun h=>h.elim id fun⟨N,T,E⟩=>absurd (by rw[N,T]at E;exact E) U⟩
structure Con(rl rl':List (List U64))(a x:Int):Prop where
 len:rl'.length=rl.length
 row: ∀r,(rl'.getD r v_).length=(rl.getD r v_).length
 bit: ∀r y,bI rl' r y↔(bI rl r y\/(r=a.toNat/\y=x.toNat)\/(r=x.toNat/\y=a.toNat))
theorem eok_of{c:VFnT}{k n:Nat}{a x:Int}(h:eok c k n a x)(E:0<=a)(N:0<=x):eok c k n ((a.toNat:Nat):Int) ((x.toNat:Nat):Int):=by rwa [a0Y E,a0Y N]
theorem rw_yes{c:VFnT}{rl T:List (List U64)}{k n q p:Nat}{l:List Int}(hp:p<l.length)(h:RwF c rl (E3 c k n q l p))(hc:Con rl T ((ae (lK c k n)).getD q 0) (l.getD p 0))(Z:0<=(ae (lK c k n)).getD q 0)(hx:0<=l.getD p 0)(hn:eok c k n ((ae (lK c k n)).getD q 0) (l.getD p 0)):RwF c T (E3 c k n q l (p+1)):=by
 refine⟨hc.len.trans h.len,fun r U=>(hc.row r).trans (h.row r U),fun r U y=>?_⟩;rw[hc.bit,h.bit r U];unfold Sy;rw[ji hp,ji hp];constructor
 ·rintro((E|E)|⟨E,N⟩|⟨E,N⟩)
  ·exact .inl (.inl E)
  ·exact .inr (.inl E)
  ·subst E N;exact .inl (.inr ⟨by omega,by omega,eok_of hn Z hx⟩)
  subst E N;exact .inr (.inr ⟨by omega,by omega,eok_of hn Z hx⟩)
 rintro((E|⟨E,N,_⟩)|(E|⟨E,N,_⟩))
 ·exact .inl (.inl E)
 ·exact .inr (.inl ⟨by omega,by omega⟩)
 ·exact .inl (.inr E)
 exact .inr (.inr ⟨by omega,by omega⟩)
theorem con_two{rl:List (List U64)}{a b:Int}{E N:List U64}(ha:a.toNat<rl.length)(hb:b.toNat<rl.length)(aa:a.toNat≠b.toNat)(l1:E.length=(rl.getD a.toNat v_).length)(l2:N.length=((rl.set a.toNat E).getD b.toNat v_).length)
  (h1: ∀i,aH E i=(aH (rl.getD a.toNat v_) i||decide (i=b.toNat))) (h2: ∀i,aH N i=(aH ((rl.set a.toNat E).getD b.toNat v_) i||decide (i=a.toNat))):Con rl ((rl.set a.toNat E).set b.toNat N) a b:=by
 have Z: ∀r,(rl.set a.toNat E).getD r v_=if a.toNat=r then E else rl.getD r v_:=fun r=>by
  rw[cz];by_cases h:a.toNat=r
  ·subst h;rw[if_pos ⟨V,ha⟩,if_pos rfl]
  rw[if_neg (fun e=>h e.1),if_neg h]
 rw[Z,if_neg aa]at l2 h2
 have e: ∀r,((rl.set a.toNat E).set b.toNat N).getD r v_=if b.toNat=r then N else if a.toNat=r then E else rl.getD r v_:=fun r=>by
  rw[cz,Z];by_cases h:b.toNat=r
  ·subst h;rw[if_pos ⟨V,by rw[a0h];exact hb⟩,if_pos rfl]
  rw[if_neg (fun e=>h e.1),if_neg h]
 refine⟨by rw[a0h,a0h],fun r=>?_,fun r y=>?_⟩
 ·rw[e];split
  ·rename_i h;subst h;exact l2
  split
  ·rename_i h;subst h;exact l1
  rfl
 unfold bI
 rw[e]
 by_cases h:b.toNat=r
 ·subst h;rw[if_pos V,h2,a0A,decide_eq_true_eq];constructor
  ·rintro(h|h)
   ·exact .inl h
   exact .inr (.inr ⟨V,h⟩)
  rintro(h|⟨h,_⟩|⟨_,h⟩)
  ·exact .inl h
  ·exact absurd h.symm aa
  exact .inr h
 rw[if_neg h]
 by_cases T:a.toNat=r
 ·subst T;rw[if_pos V,h1,a0A,decide_eq_true_eq];constructor
  ·rintro(h|h)
   ·exact .inl h
   exact .inr (.inl ⟨V,h⟩)
  rintro(h|⟨_,h⟩|⟨h,_⟩)
  ·exact .inl h
  ·exact .inr h
  exact absurd h aa
 rw[if_neg T]
 exact⟨.inl,fun U=>U.elim id fun U=>by rcases U with⟨a_,_⟩|⟨a_,_⟩;exact absurd a_.symm T;exact absurd a_.symm h⟩
def upS(rl:List (List U64))(k n y:Nat):Prop:=bI rl k y/\y<n
theorem up_zero{rl:List (List U64)}{k:Nat}:Lst [] (upS rl k 0):=Lst.nil fun r h=>a0B _ h.2
theorem Lst.snoc{l:List Int}{S:Nat->Prop}{n:Nat}(h:Lst l S)(U: ∀y,S y->y<n):Lst (l++[(n:Int)]) (fun y=>S y\/y=n):=by
 refine⟨a2n.2 ⟨h.asc,List.pairwise_singleton _ _,fun x Z y T=>?_⟩,fun x=>?_⟩
 ·rw[a08]at T;subst T;have:=(h.mem x).1 Z;have:=U _ this.2;omega
 rw[a07,a08,h.mem];constructor
 ·rintro(E|E)
  ·exact⟨E.1,.inl E.2⟩
  exact⟨by omega,.inr M⟩
 rintro⟨E,N|N⟩
 ·exact .inl ⟨E,N⟩
 exact .inr M
theorem up_yes{rl:List (List U64)}{k n:Nat}{l:List Int}(h:Lst l (upS rl k n))(U:bI rl k n):Lst (l++[(n:Int)]) (upS rl k (n+1)):=Lst.ext (Lst.snoc h fun y Z=>Z.2) fun y=>by
 unfold upS;constructor
 ·rintro(⟨E,T⟩|rfl)
  ·exact⟨E,by omega⟩
  exact⟨U,a1b _⟩
 rintro⟨E,T⟩;rcases a0g y n with N|N
 ·exact .inl ⟨E,N⟩
 exact .inr M
theorem up_no{rl:List (List U64)}{k n:Nat}{l:List Int}(h:Lst l (upS rl k n))(U: ¬bI rl k n):Lst l (upS rl k (n+1)):=Lst.ext h fun y=>by
 unfold upS;constructor
 ·rintro⟨E,T⟩;exact⟨E,by omega⟩
 rintro⟨E,T⟩;refine⟨E,?_⟩;rcases a0g y n with N|N
 ·exact N
 have:y=n:=M
 subst this;exact absurd E U
theorem rw_last{c:VFnT}{rl:List (List U64)}{k:Nat}(h:RwF c rl (E0 c k))(E:k=c.u.length):RwF c rl (j9 c):=by subst E;exact h
theorem row_rep{n r:Nat}:dp (List.replicate n ([]:List Int)) r=[]:=by unfold dp;rw[a02,a1d];split<;>rfl
structure InF(c:VFnT)(g:List (List Int)):Prop where
 len:g.length=c.r.toNat
 row: ∀r,r<c.r.toNat->Lst (dp g r) (Sy (j9 c) r)
theorem inf_of{c:VFnT}{g:List (List Int)}{k:Nat}(E:g.length=c.r.toNat)(N:c.r.toNat<=k)(h: ∀r,r<k->Lst (dp g r) (Sy (j9 c) r)):InF c g:=⟨E,fun r T=>h r M⟩
theorem fin_row{c:VFnT}{rl:List (List U64)}{g:List (List Int)}{k n:Nat}(h:RwF c rl (j9 c))(hk:k<c.r.toNat)(v:VF c)(hn:c.r.toNat<=n)(hg: ∀r,r<k->Lst (dp g r) (Sy (j9 c) r))(hu:Lst (dp g k) (upS rl k n)): ∀r,r<k+1->Lst (dp g r) (Sy (j9 c) r):=fun r hr=>by
 rcases a0g r k with E|E
 ·exact hg r E
 have:r=k:=M
 subst this;refine Lst.ext hu fun y=>?_
 unfold upS;rw[h.bit r hk];refine⟨fun h=>h.1,fun Z=>⟨Z,?_⟩⟩;have aa: ∀a x,j9 c a x->(a:Int)<c.r/\(x:Int)<c.r:=fun a x ⟨b,i,E,N,T,U,_⟩=>⟨((bF (v.v b E i N)).2.1 _ T).2,iG v E U⟩
 rcases Z with Z|Z
 ·have:=aa _ _ Z;omega
 have:=aa _ _ Z;omega
theorem inter_c{dk:Option Addr}{dn:Nat}(c:VFnT)(hs:HS (.of H []) F H [] R)(rA:in64 c.m)(rB:in64 c.r)(c8:SR F (sL dk c.u.length dn) c.u)(hT:TB 37 tabC F)(ja: ∀j,(c.u.getD j v_).v.length<=1073741822):kKt ex 68 [(aG [(iI c.m),(iI c.r),(sL dk c.u.length dn)])] H fun v H'=> ∃(ag:Option Addr) (kg:Nat) (g:List (List Int)) (F':Fz),Fz.le F F'/\HS (.of H []) F' H' [] R/\v=sL ag g.length kg/\SR F' (sL ag g.length kg) g/\(ca c=true->InF c g)/\(ca c=false->g=[]):=by
 refine aC Tryz.func68 V V (am 1 V (ab (bd (aR hs V V) V V ?_)));rintro _ H2 _ ⟨b1,rfl,l9,_⟩;let o9:Value:=(aG [(iI c.m),(iI c.r),(sL dk c.u.length dn)])
 refine za (sL none 0 0) (ah 3 V (ab (aY 1 0 18 18 [] [(18,o9)] (Hr_ 0 0 Hn_) l9 V V fun _=>zc (m3.kE ex c (HS.call l9) M M c8 hT (fun j=>a0e (ja j) M)) ?_)));rintro _ H4 ⟨r4,F4,it,hX,rfl,rfl⟩;replace hX:=HS.back l9 V hX;replace hT:=hT.mono it;replace c8:=c8.mono it;refine bL 1 2 20 20 [] [(20,(.bool (!(ca c))))] Hn_ (by kernel_rfl) V fun _=>ah 1 V (zI 1 2 (fun c6=>?_) fun c6=>?_)
 ·have hv:=c6;refine wT 1 [] 2 2 [] [(2,(sL none 0 0))] V fun _=>aj ⟨.inr V,_,V,none,0,([]:List (List Int)),_,(it),(HS.forget hX),V,(SR.nil:SR F4 (sL none 0 0) ([]:List (List Int))),(fun h=>absurd (h.symm.trans hv) e_),(fun _=>rfl)⟩
 have hv:=c6;have vF:=e7 hv;have uc:=vF.nb;have n7:=vF.r;have ui:=wd_le vF.r;have rF:Int.tdiv (c.r+63) 64=(c.r+63)/64:=a1e M;have rG:(List.replicate c.r.toNat (v_:Hd)).length=c.r.toNat:=a0O;refine ab (aY 2 0 21 22 [] [(22,(iI c.r))] (Hr_ 1 0 Hn_) hX V V fun _=>bd (cQ (v_:Hd) hX V V V V V V V V V V M M) V V ?_);rintro _ r7 p9 ⟨a9,k9,rfl,qq,pI,_⟩;have pJ:=HS.snoc pI;have k4:SF F4 (List.replicate c.r.toNat (v_:Hd)) (List.replicate c.r.toNat ([]:List U64)) []:=SF.rep _;have rk:=FAM.len k4;let g1:Fp:=(fP b1 [(iI c.m),(iI c.r),(sL dk c.u.length dn)])
 refine zn pJ V fun aq r8 pK=>sgo 1 4 1 0 [] [] (Hr_ 4 3 Hn_) pK V V fun rx r9 l8=>ah 3 V (aU 2 24 26 [] [(25,(iI ((List.replicate c.r.toNat (v_:Hd)).length:Int))),(26,(iI 0))] (Hr_ 0 3 Hn_) l8 V V fun _=>ak (fun(mm:Nat) f H'=> ∃(rh:List Hd) (rl:List (List U64)) (k:Nat) (b4:Fp) (aw:Option Addr) (ay:Nat) (f5:Fp) (F':Fz),Fz.le F4 F'/\HS (Base.of H []) F' H' [g1,b4,f5,(fP aq [(sL aw rh.length ay)])] R/\OS F' (sL aw rh.length ay) rh b4/\SF F' rh rl f5/\aB f [(1,(pT b1 0)),(3,(pT aq 0)),(25,(iI ((List.replicate c.r.toNat (v_:Hd)).length:Int))),(26,(iI (k:Int)))]/\mm=c.r.toNat-k/\(rl.length=c.r.toNat)/\(k<=c.r.toNat)/\(∀j,j<k->rl.getD j v_=List.replicate (wds c) ⟨0⟩)) _ ⟨List.replicate c.r.toNat (v_:Hd),List.replicate c.r.toNat ([]:List U64),0,p9,a9,k9,[],_,fR,l8,qq,k4,⟨V,V,V,V,trivial⟩,V,o_,M,(by intro j hj;omega)⟩ ?_)
 rintro rR sC sb ⟨rh,rl,k,b4,aw,ay,f5,qb,hG,f7,bl,d1,k5,rfl,oZ,sP,o3⟩ pV;refine au _ k5 (fun _=>?_);clear k5;replace hT:=hT.mono hG;replace c8:=c8.mono hG;have p4:=FAM.len d1;refine am 1 V (wT 2 [] 27 27 [] [(27,(.bool (decide ((k:Int)<((List.replicate c.r.toNat (v_:Hd)).length:Int)))))] V fun _=>zd 4 5 (fun qh=>?_) fun qh=>?_)
 ·refine wT 1 [] 28 28 [4] [(4,(iI (k:Int)))] V fun _=>aL V ?_
  have r1:in64 (c.r+63)->in64 (Int.tdiv (c.r+63) 64):=fun h=>vq h e_
  refine eO 6 29 34 [] [(29,(sL aw rh.length ay)),(30,(iI (k:Int))),(34,(iI (Int.tdiv (c.r+63) 64)))] (Hr_ 0 3 (Hr_ 3 0 (Ha_ (vi (n:=c.r+63)) (Ha_ (vA (show(64:Int)≠0 from by decide) (vq (a:=c.r+63) (b:=64) M e_)) Hn_)))) f7 V V fun _=>fu (id:= .x []) (cQ (⟨0⟩:U64) f7.log0 V V V V V V V V V ⟨V,by decide⟩ M M) V V (by rintro _ _ qs ⟨h9,kl,rfl,l2,_,hwr⟩;exact dC V V (Wr.did hwr)) (⟨.inl V,.inl V,.inl V,.inl V,.inr trivial,.inr a0k,trivial⟩) ?_
  rintro _ qf qs ⟨h9,kl,rfl,l2,ha,_⟩ pZ oE;replace ha:=HS.lg ha f7 oE;generalize ({qf with log:=pZ}:Heap)=q3 at ha⊢;refine zx Hd k (OS.sv bl ha.log0 (i:=1) V) ?_;obtain⟨rq,pj,pL,h5,pB⟩:=SF.open d1 ha (q:=2) (i:=k) V M;have h5:OS qb (sL (rh.getD k v_).a (rh.getD k v_).n (rh.getD k v_).k) (rl.getD k v_) pj:=h5;have rO:=OS.nlen h5;obtain⟨pz,mk,k6⟩:=SF.shutN (⟨h9,(List.replicate (Int.tdiv (c.r+63) 64).toNat (⟨0⟩:U64)).length,kl⟩:Hd) pB fR pL (q:=2) (m:=4) e_ V V l2;have rm:=FAM.len k6;refine gP (id:= .x (b4.map Prod.fst)) (dm (α:=Hd) (j:=k) (off:=0) (q:=1) (⟨h9,(List.replicate (Int.tdiv (c.r+63) 64).toNat (⟨0⟩:U64)).length,kl⟩:Hd) bl mk.log0 V V V V V V V V (bg (x:=v_) M) V (by rintro cs rfl;exact⟨a0a V,V⟩)) V (by rintro _ _ o4 ⟨h6,_,hwr⟩;exact dC V V (Wr.did hwr)) (kb V) ?_;rintro _ qg o4 ⟨h6,hL,_⟩ p0 oF;replace hL:=HS.lg hL mk oF;generalize ({qg with log:=p0}:Heap)=q4 at hL⊢;have qL:=OS.len' h6;refine bC 2 V (wU 1 [] 26 26 [37] [(26,(iI ((k:Int)+1)))] (vi (n:=(k:Int)+1)) V fun _=>?_);refine pV _ _ _ ?_ ⟨rh.set k (⟨h9,(List.replicate (Int.tdiv (c.r+63) 64).toNat (⟨0⟩:U64)).length,kl⟩:Hd),rl.set k (List.replicate (Int.tdiv (c.r+63) 64).toNat (⟨0⟩:U64)),k+1,o4,aw,ay,pz,_,(hG),(by(simpa only[a0h] using(HS.sub hL (a03 _ _)))),(OS.norm h6),k6,⟨V,V,V,V,trivial⟩,V,(by rw[a0h];exact oZ),M,(zset o3 M)⟩;omega
 refine wT 2 [] 38 38 [5] [(5,(.func (.func 114) #[] #[(pT aq 0)]))] V fun _=>?_
 have pG:=rw_zero (c:=c) oZ M o3;refine ab (aY 1 0 39 39 [] [(39,o9)] (Hr_ 0 0 Hn_) f7 V V fun _=>zc (na.points_c ex c (HS.call f7) M M c8 hT M M) ?_);rintro _ sc ⟨f2,f3,E,hl,qc,g6,hM,rfl,a7,sN⟩;replace hM:=HS.back f7 V hM;replace bl:=bl.mono g6;replace d1:=SF.mono g6 d1;refine za (sL f2 E.length f3) (ah 3 V ?_);have ps:=(by assumption:PsF c _)
 have th:=ps.len;refine aU 2 41 44 [] [(42,(sL dk c.u.length dn)),(43,(iI (c.u.length:Int))),(44,(iI 0))] (Hr_ 1 0 Hn_) hM V V fun _=>ak (fun(mm:Nat) f H'=> ∃(e1:List Hd) (h1:List (List U64)) (k:Nat) (b5:Fp) (a8:Option Addr) (bz:Nat) (ef:Fp) (F':Fz),Fz.le qc F'/\HS (Base.of H []) F' H' [g1,b5,ef,(fP aq [(sL a8 e1.length bz)]),hl] R/\OS F' (sL a8 e1.length bz) e1 b5/\SF F' e1 h1 ef/\aB f [(1,(pT b1 0)),(3,(pT aq 0)),(5,(.func (.func 114) #[] #[(pT aq 0)])),(6,(sL f2 E.length f3)),(42,(sL dk c.u.length dn)),(43,(iI (c.u.length:Int))),(44,(iI (k:Int)))]/\mm=c.u.length-k/\(RwF c h1 (E0 c k))/\(k<=c.u.length)) _ ⟨rh,rl,0,b4,aw,ay,f5,_,fR,hM,bl,d1,⟨V,V,V,V,V,V,V,trivial⟩,V,(pG),M⟩ ?_
 rintro rS sD sd ⟨e1,h1,k,b5,a8,bz,ef,kr,g7,hb,f9,hf,k7,rfl,oc,hk⟩ pW;refine au _ k7 (fun _=>?_);clear k7;replace hT:=(hT.mono g6).mono g7;replace c8:=(c8.mono g6).mono g7;replace a7:=a7.mono g7;have p5:=FAM.len hf;have rH:=oc.len;refine am 1 V (wT 2 [] 45 45 [] [(45,(.bool (decide ((k:Int)<(c.u.length:Int)))))] V fun _=>zd 4 5 (fun qi=>?_) fun qi=>?_)
 ·have ho:k<c.u.length:=M
  have ua:=ja k;have px:PtX c k (E.getD k v_):=ps.at_ k ho;have ti:(E.getD k v_).length=(c.u.getD k v_).v.length+2:=px.len;have qP:(E.getD k []).length=(c.u.getD k v_).v.length+2:=px.len;refine ab ?_;obtain⟨a2,mI⟩:=Sv.view (SR.sv c8 hb);obtain⟨qC,qD,qE,qF,g5⟩:=BlkT.fx (mI k);refine bL 3 0 46 48 [] [(46,(iI (k:Int))),(48,(aG [(sL (cA (a2 k) 0) (c.u.getD k v_).v.length (cK (a2 k) 0)),(iI (c.u.getD k v_).f),(iI (c.u.getD k v_).r),(iI (c.u.getD k v_).t),(iI (c.u.getD k v_).e)]))] (Ha_ (Sv.ix (j:=(k:Int)) (SR.sv c8 hb)) (Hl_ 2 (qn 82 0 5 (BlkT.vw (mI k)) V V V V) Hn_)) (by kernel_rfl) V fun _=>zn hb V fun oY se pM=>sgo 2 4 1 0 [7] [(7,(iI (k:Int)))] (Hr_ 5 5 Hn_) pM V V fun ry sf mx=>ah 2 V (aU 2 49 52 [] [(50,(sL (cA (a2 k) 0) (c.u.getD k v_).v.length (cK (a2 k) 0))),(51,(iI ((c.u.getD k v_).v.length:Int))),(52,(iI 0))] (Hr_ 1 5 Hn_) mx V V fun _=>ak (fun(mm:Nat) f H'=> ∃(ht:List Hd) (h3:List (List U64)) (n:Nat) (b6:Fp) (bb:Option Addr) (b2:Nat) (et:Fp) (F':Fz),Fz.le kr F'/\HS (Base.of H []) F' H' [g1,b6,et,(fP aq [(sL bb ht.length b2)]),hl,(fP oY [(sL (cA (a2 k) 0) (c.u.getD k v_).v.length (cK (a2 k) 0)),(iI (c.u.getD k v_).f),(iI (c.u.getD k v_).r),(iI (c.u.getD k v_).t),(iI (c.u.getD k v_).e)])] R/\OS F' (sL bb ht.length b2) ht b6/\SF F' ht h3 et/\aB f [(1,(pT b1 0)),(3,(pT aq 0)),(5,(.func (.func 114) #[] #[(pT aq 0)])),(6,(sL f2 E.length f3)),(7,(iI (k:Int))),(42,(sL dk c.u.length dn)),(43,(iI (c.u.length:Int))),(44,(iI (k:Int))),(50,(sL (cA (a2 k) 0) (c.u.getD k v_).v.length (cK (a2 k) 0))),(51,(iI ((c.u.getD k v_).v.length:Int))),(52,(iI (n:Int)))]/\mm=(c.u.getD k v_).v.length-n/\(RwF c h3 (E1 c k n))/\(n<=(c.u.getD k v_).v.length)) _ ⟨e1,h1,0,b5,a8,bz,ef,_,fR,mx,f9,hf,⟨V,V,V,V,V,V,V,V,V,V,V,trivial⟩,V,(rw_e1 oc),M⟩ ?_)
  rintro rU sE sg ⟨ht,h3,n,b6,bb,b2,et,r5,g8,hO,co,d2,k8,rfl,o5,hn⟩ pX;refine au _ k8 (fun _=>?_);clear k8;replace hT:=hT.mono g8;replace a7:=a7.mono g8;replace g5:=g5.mono g8;have p6:=FAM.len d2;refine am 1 V (wT 2 [] 53 53 [] [(53,(.bool (decide ((n:Int)<((c.u.getD k v_).v.length:Int)))))] V fun _=>zd 4 5 (fun qj=>?_) fun qj=>?_)
  ·have n5:n<(c.u.getD k v_).v.length:=M
   have n8:(∀x∈aF ((c.u.getD k v_).v.getD n v_),0<=x/\x<c.r)/\(∀x∈ae ((c.u.getD k v_).v.getD n v_),0<=x/\x<c.r)/\((c.u.getD k v_).v.getD n v_).args.length<=6:=bF (vF.v k ho n n5);have rK:=n8.2.2;have pl:Lst ((E.getD k v_).getD (n+1) v_) (ptS c k (n+1)):=px.pt (n+1) n5;have ue:=Lst.len pl n7.1 (fun r h=>iG vF ho h);have uf:((E.getD k v_).getD (n+1) []).length=((E.getD k v_).getD (n+1) v_).length:=rfl;have rE:((E.getD k []).getD (n+1) []).length=((E.getD k v_).getD (n+1) v_).length:=rfl;have uj:=dI (v:=((c.u.getD k v_).v.getD n v_));refine ab ?_;obtain⟨hD,m0⟩:=Sv.view (SR.sv g5 hO);obtain⟨qG,qH,qI,qJ,qK,oX⟩:=VInT.fx (m0 n);let pc:Value:=(aG [(iI ((c.u.getD k v_).v.getD n v_).i.op),(iI ((c.u.getD k v_).v.getD n v_).i.a),(iI ((c.u.getD k v_).v.getD n v_).i.b),(iI ((c.u.getD k v_).v.getD n v_).i.c),(iI ((c.u.getD k v_).v.getD n v_).i.n),(sL (cA (hD n) 5) ((c.u.getD k v_).v.getD n v_).args.length (cK (hD n) 5))])
   refine bL 3 0 54 56 [] [(54,(iI (n:Int))),(56,pc)] (Ha_ (Sv.ix (j:=(n:Int)) (SR.sv g5 hO)) (Hl_ 2 (qn 88 0 6 (VInT.vw (m0 n)) V V V V) Hn_)) (by kernel_rfl) V fun _=>zn hO V fun k0 sk pN=>sgo 2 4 1 0 [9] [(9,(iI (n:Int)))] (Hr_ 5 6 Hn_) pN V V fun rz sn h7=>ah 2 V (ab (aY 1 0 57 57 [] [(57,pc)] (Hr_ 0 6 Hn_) h7 V V fun _=>?_))
   refine zc (ma.iB ex ((c.u.getD k v_).v.getD n v_) (HS.call h7) M M M M M oX hT) ?_;rintro _ sq ⟨kz,oa,sT,ob,qd,hH,h8,rfl,g4,rfl⟩;replace h8:=HS.back h7 V h8;replace co:=co.mono hH;replace d2:=SF.mono hH d2;let oo:Fp:=(fP oY [(sL (cA (a2 k) 0) (c.u.getD k v_).v.length (cK (a2 k) 0)),(iI (c.u.getD k v_).f),(iI (c.u.getD k v_).r),(iI (c.u.getD k v_).t),(iI (c.u.getD k v_).e)])
   let ot:Fp:=(fP k0 [(iI ((c.u.getD k v_).v.getD n v_).i.op),(iI ((c.u.getD k v_).v.getD n v_).i.a),(iI ((c.u.getD k v_).v.getD n v_).i.b),(iI ((c.u.getD k v_).v.getD n v_).i.c),(iI ((c.u.getD k v_).v.getD n v_).i.n),(sL (cA (hD n) 5) ((c.u.getD k v_).v.getD n v_).args.length (cK (hD n) 5))])
   refine bL 2 2 59 60 [] [(59,(iI ((ae ((c.u.getD k v_).v.getD n v_)).length:Int))),(60,(iI 0))] Hn_ (by kernel_rfl) V fun _=>ah 2 V (ak (fun(mm:Nat) f H'=> ∃(hu:List Hd) (h4:List (List U64)) (q:Nat) (b7:Fp) (bk:Option Addr) (b3:Nat) (ez:Fp) (F':Fz),Fz.le qd F'/\HS (Base.of H []) F' H' [g1,b7,ez,(fP aq [(sL bk hu.length b3)]),hl,oo,ot,ob] R/\OS F' (sL bk hu.length b3) hu b7/\SF F' hu h4 ez/\aB f [(1,(pT b1 0)),(3,(pT aq 0)),(5,(.func (.func 114) #[] #[(pT aq 0)])),(6,(sL f2 E.length f3)),(7,(iI (k:Int))),(9,(iI (n:Int))),(10,(pT k0 0)),(42,(sL dk c.u.length dn)),(43,(iI (c.u.length:Int))),(44,(iI (k:Int))),(50,(sL (cA (a2 k) 0) (c.u.getD k v_).v.length (cK (a2 k) 0))),(51,(iI ((c.u.getD k v_).v.length:Int))),(52,(iI (n:Int))),(58,(sL kz (ae ((c.u.getD k v_).v.getD n v_)).length oa)),(59,(iI ((ae ((c.u.getD k v_).v.getD n v_)).length:Int))),(60,(iI (q:Int)))]/\mm=(ae ((c.u.getD k v_).v.getD n v_)).length-q/\(RwF c h4 (E2 c k n q))/\(q<=(ae ((c.u.getD k v_).v.getD n v_)).length)) _ ⟨ht,h3,0,b6,bb,b2,et,_,fR,h8,co,d2,⟨V,V,V,V,V,V,V,V,V,V,V,V,V,V,V,V,trivial⟩,V,(rw_e2 o5),M⟩ ?_)
   rintro rV sF ss ⟨hu,h4,q,b7,bk,b3,ez,qe,hI,dv,go,hg,lf,rfl,o6,hq⟩ pY;refine au _ lf (fun _=>?_);clear lf;replace a7:=(a7.mono hH).mono hI;replace g4:=g4.mono hI;have p7:=FAM.len hg;refine am 1 V (wT 2 [] 61 61 [] [(61,(.bool (decide ((q:Int)<((ae ((c.u.getD k v_).v.getD n v_)).length:Int)))))] V fun _=>zd 4 5 (fun qk=>?_) fun qk=>?_)
   ·have rb:=dG n8.2.1 (k:=q) M;obtain⟨q7,ne⟩:=Sv.view (OS.sv g4 dv (i:=7) V);have sH:=fI (ne q);refine wrp 2 62 63 [12] [(12,(iI ((ae ((c.u.getD k v_).v.getD n v_)).getD q 0)))] (Ha_ (Sv.ix (j:=(q:Int)) (OS.sv g4 dv (i:=7) V)) (Hl_ 1 (ql 3 0 (vI (ne q)) V V) Hn_)) (by kernel_rfl) V fun _=>?_
    obtain⟨q8,nm⟩:=Sv.view (OS.sv a7 dv (i:=4) V);have o8:=fL (nm k);obtain⟨hE,nx⟩:=Sv.view (SR.sv o8 dv);have ko:=fL (nx (n+1));refine wrp 2 64 73 [] [(71,(sL (cA (hE (n+1)) 0) ((E.getD k v_).getD (n+1) v_).length (cK (hE (n+1)) 0))),(72,(iI (((E.getD k v_).getD (n+1) v_).length:Int))),(73,(iI 0))] (Ha_ (Sv.ix (j:=(k:Int)) (OS.sv a7 dv (i:=4) V)) (Hl_ 3 (ql 43 0 (vL (nm k)) V V) (Ha_ (vi (n:=(n:Int)+1)) (Ha_ (Sv.ix (j:=(n:Int)+1) (SR.sv o8 dv)) (Hl_ 7 (ql 22 0 (vL (nx (n+1))) V V) Hn_))))) (by kernel_rfl) V fun _=>ak (fun(mm:Nat) f H'=> ∃(a_:List Hd) (N:List (List U64)) (p:Nat) (a1:Fp) (ax:Option Addr) (aA:Nat) (e0:Fp) (F':Fz),Fz.le qe F'/\HS (Base.of H []) F' H' [g1,a1,e0,(fP aq [(sL ax a_.length aA)]),hl,oo,ot,ob] R/\OS F' (sL ax a_.length aA) a_ a1/\SF F' a_ N e0/\aB f [(1,(pT b1 0)),(3,(pT aq 0)),(5,(.func (.func 114) #[] #[(pT aq 0)])),(6,(sL f2 E.length f3)),(7,(iI (k:Int))),(9,(iI (n:Int))),(10,(pT k0 0)),(12,(iI ((ae ((c.u.getD k v_).v.getD n v_)).getD q 0))),(42,(sL dk c.u.length dn)),(43,(iI (c.u.length:Int))),(44,(iI (k:Int))),(50,(sL (cA (a2 k) 0) (c.u.getD k v_).v.length (cK (a2 k) 0))),(51,(iI ((c.u.getD k v_).v.length:Int))),(52,(iI (n:Int))),(58,(sL kz (ae ((c.u.getD k v_).v.getD n v_)).length oa)),(59,(iI ((ae ((c.u.getD k v_).v.getD n v_)).length:Int))),(60,(iI (q:Int))),(71,(sL (cA (hE (n+1)) 0) ((E.getD k v_).getD (n+1) v_).length (cK (hE (n+1)) 0))),(72,(iI (((E.getD k v_).getD (n+1) v_).length:Int))),(73,(iI (p:Int)))]/\mm=(((E.getD k v_).getD (n+1) v_)).length-p/\(RwF c N (E3 c k n q ((E.getD k v_).getD (n+1) v_) p))/\(p<=(((E.getD k v_).getD (n+1) v_)).length)) _ ⟨hu,h4,0,b7,bk,b3,ez,_,fR,dv,go,hg,⟨V,V,V,V,V,V,V,V,V,V,V,V,V,V,V,V,V,V,V,V,trivial⟩,V,(rw_e3 o6),M⟩ ?_
    rintro rW sG su ⟨a_,N,p,a1,ax,aA,e0,kx,hJ,c9,Z,f4,lr,rfl,hA,hp⟩ n4;refine au _ lr (fun _=>?_);clear lr;replace ko:=ko.mono hJ;have p8:=FAM.len f4;refine am 1 V (wT 2 [] 74 74 [] [(74,(.bool (decide ((p:Int)<(((E.getD k v_).getD (n+1) v_).length:Int)))))] V fun _=>zd 4 5 (fun qm=>?_) fun qm=>?_)
    ·have ro:0<=(((E.getD k v_).getD (n+1) v_)).getD p 0/\(((E.getD k v_).getD (n+1) v_)).getD p 0<c.r:=by(have hm:=(pl.mem _).1 (iJ (l:=((E.getD k v_).getD (n+1) v_)) (q:=p) M);have hh:=iG vF ho hm.2;omega)
     obtain⟨q9,n1⟩:=Sv.view (SR.sv ko c9);have sI:=fI (n1 p);refine wrp 2 75 76 [14] [(14,(iI (((E.getD k v_).getD (n+1) v_).getD p 0)))] (Ha_ (Sv.ix (j:=(p:Int)) (SR.sv ko c9)) (Hl_ 1 (ql 3 0 (vI (n1 p)) V V) Hn_)) (by kernel_rfl) V fun _=>wrp 1 77 93 [] [(93,(.bool (((((E.getD k v_).getD (n+1) v_).getD p 0) !=((ae ((c.u.getD k v_).v.getD n v_)).getD q 0))&&(!((((c.u.getD k v_).v.getD n v_).i.op==10)&&((((E.getD k v_).getD (n+1) v_).getD p 0)==((c.u.getD k v_).v.getD n v_).i.b))))))] (be 6 (fun _=>(ql 3 0 (HS.hc c9 (i:=6) V) V V)) (jv 12 (fun _ _=>(ql 3 2 (HS.hc c9 (i:=6) V) V V)) Hn_)) V V fun _=>zI 0 2 (fun k3=>?_) fun k3=>?_
     ·have g9:=k3;have jk:eok c k n ((ae ((c.u.getD k v_).v.getD n v_)).getD q 0) ((((E.getD k v_).getD (n+1) v_)).getD p 0):=⟨g9.1,fun h=>by have h2:=g9.2;simp_all⟩
      have rI:=hA.len;have ug:=hA.row ((ae ((c.u.getD k v_).v.getD n v_)).getD q 0).toNat M;have uh:=hA.row ((((E.getD k v_).getD (n+1) v_)).getD p 0).toNat M;have ud:=n64 (s:=N.getD ((ae ((c.u.getD k v_).v.getD n v_)).getD q 0).toNat v_) (n:=(((E.getD k v_).getD (n+1) v_)).getD p 0) M;have ub:=n64 (s:=N.getD ((((E.getD k v_).getD (n+1) v_)).getD p 0).toNat v_) (n:=(ae ((c.u.getD k v_).v.getD n v_)).getD q 0) M;have no:((ae ((c.u.getD k v_).v.getD n v_)).getD q 0).toNat≠((((E.getD k v_).getD (n+1) v_)).getD p 0).toNat:=by have:=g9.1;omega
      refine ab (zm (.func (.func 114) #[] #[(pT aq 0)]) (zm (iI ((ae ((c.u.getD k v_).v.getD n v_)).getD q 0)) (zm (iI (((E.getD k v_).getD (n+1) v_).getD p 0)) (cu (R:=fun v H'=> ∃(dj:List Hd) (rlc:List (List U64)) (c7:Fp) (ci:Option Addr) (c5:Nat) (f6:Fp) (F':Fz),Fz.le kx F'/\HS (Base.of H []) F' H' [g1,c7,f6,(fP aq [(sL ci dj.length c5)]),hl,oo,ot,ob] R/\OS F' (sL ci dj.length c5) dj c7/\SF F' dj rlc f6/\v= .tuple #[]/\(Con N rlc ((ae ((c.u.getD k v_).v.getD n v_)).getD q 0) (((E.getD k v_).getD (n+1) v_).getD p 0))) (ap_callc V V V V) V V ?_ ?_))))
      ·refine aC Tryz.func114 V V (am 1 V (ab ?_));obtain⟨rc,pS⟩:=Sv.view (OS.sv Z c9 (i:=1) V);obtain⟨rr,pm,hP,f0,pC⟩:=SF.open f4 c9 (q:=2) (i:=((ae ((c.u.getD k v_).v.getD n v_)).getD q 0).toNat) V M;have f0:OS kx (sL (a_.getD (((ae ((c.u.getD k v_).v.getD n v_)).getD q 0).toNat) v_).a (a_.getD (((ae ((c.u.getD k v_).v.getD n v_)).getD q 0).toNat) v_).n (a_.getD (((ae ((c.u.getD k v_).v.getD n v_)).getD q 0).toNat) v_).k) (N.getD (((ae ((c.u.getD k v_).v.getD n v_)).getD q 0).toNat) v_) pm:=f0;have rP:=OS.nlen f0;have r2:in64 (((E.getD k v_).getD (n+1) v_).getD p 0)->in64 (Int.tdiv (((E.getD k v_).getD (n+1) v_).getD p 0) 64):=fun h=>vq h e_
       obtain⟨re,n2⟩:=Sv.view (OS.sv f0 hP (i:=8) V);have sJ:=fU (n2 ((Int.tdiv (((E.getD k v_).getD (n+1) v_).getD p 0) 64).toNat));refine aY 14 0 5 18 [] [(17,(.int .u64 (aD .or .u64 (((N.getD (((ae ((c.u.getD k v_).v.getD n v_)).getD q 0).toNat) v_).getD ((Int.tdiv (((E.getD k v_).getD (n+1) v_).getD p 0) 64).toNat) v_).n) (IntKind.u64.wrap (1 *2^(Nat.min ((Int.tmod (((E.getD k v_).getD (n+1) v_).getD p 0) 64).toNat) 64)))))),(18,(.pointer (some ⟨sB (sL (a_.getD (((ae ((c.u.getD k v_).v.getD n v_)).getD q 0).toNat) v_).a (a_.getD (((ae ((c.u.getD k v_).v.getD n v_)).getD q 0).toNat) v_).n (a_.getD (((ae ((c.u.getD k v_).v.getD n v_)).getD q 0).toNat) v_).k),sO (sL (a_.getD (((ae ((c.u.getD k v_).v.getD n v_)).getD q 0).toNat) v_).a (a_.getD (((ae ((c.u.getD k v_).v.getD n v_)).getD q 0).toNat) v_).n (a_.getD (((ae ((c.u.getD k v_).v.getD n v_)).getD q 0).toNat) v_).k)+((Int.tdiv (((E.getD k v_).getD (n+1) v_).getD p 0) 64).toNat) *Rp.sz U64,none⟩)))] (Hr_ 0 3 (Ha_ (Sv.ix (j:=((ae ((c.u.getD k v_).v.getD n v_)).getD q 0)) (OS.sv Z c9 (i:=1) V)) (Hl_ 3 (ql 184 0 (vH (pS (((ae ((c.u.getD k v_).v.getD n v_)).getD q 0).toNat))) V V) (Ha_ (vA (show(64:Int)≠0 from by decide) (vq (a:=(((E.getD k v_).getD (n+1) v_).getD p 0)) (b:=64) M e_)) (Ha_ (Sv.ix (j:=Int.tdiv (((E.getD k v_).getD (n+1) v_).getD p 0) 64) (OS.sv f0 hP (i:=8) V)) (Hl_ 7 (ql 161 0 (vU (n2 ((Int.tdiv (((E.getD k v_).getD (n+1) v_).getD p 0) 64).toNat))) V V) (Ha_ (show(64:Int)≠0 from by decide) (Ha_ (vu (n:=Int.tmod (((E.getD k v_).getD (n+1) v_).getD p 0) 64) M) (Ha_ (show(0:Int)<=Int.tmod (((E.getD k v_).getD (n+1) v_).getD p 0) 64 from by omega) (Ha_ (Sv.ix (j:=Int.tdiv (((E.getD k v_).getD (n+1) v_).getD p 0) 64) (OS.sv f0 hP (i:=8) V)) Hn_)))))))))) c9 V V fun _=>gf (dm (α:=U64) (j:=(Int.tdiv (((E.getD k v_).getD (n+1) v_).getD p 0) 64).toNat) (off:=0) (q:=8) ⟨aD .or .u64 (((N.getD (((ae ((c.u.getD k v_).v.getD n v_)).getD q 0).toNat) v_).getD ((Int.tdiv (((E.getD k v_).getD (n+1) v_).getD p 0) 64).toNat) v_).n) (IntKind.u64.wrap (1 *2^(Nat.min ((Int.tmod (((E.getD k v_).getD (n+1) v_).getD p 0) 64).toNat) 64)))⟩ f0 hP V V V V V V V V (bg (x:=v_) M) V (by rintro cs ⟨rfl,_⟩;exact⟨a0a V,V,by(dsimp only;exact fM _ _ _)⟩)) V ?_
       rintro _ sx sR ⟨l3,pP,_⟩;have qM:=OS.len' l3;refine ah 1 V ?_;obtain⟨ru,hQ,l0⟩:=SF.shut pC fR pP (q:=2) (m:=8) e_ V V l3;have rn:=FAM.len l0;have sQ:((N.set (((ae ((c.u.getD k v_).v.getD n v_)).getD q 0).toNat) ((N.getD (((ae ((c.u.getD k v_).v.getD n v_)).getD q 0).toNat) v_).set ((Int.tdiv (((E.getD k v_).getD (n+1) v_).getD p 0) 64).toNat) ⟨aD .or .u64 (((N.getD (((ae ((c.u.getD k v_).v.getD n v_)).getD q 0).toNat) v_).getD ((Int.tdiv (((E.getD k v_).getD (n+1) v_).getD p 0) 64).toNat) v_).n) (IntKind.u64.wrap (1 *2^(Nat.min ((Int.tmod (((E.getD k v_).getD (n+1) v_).getD p 0) 64).toNat) 64)))⟩)).getD (((E.getD k v_).getD (n+1) v_).getD p 0).toNat v_).length=(N.getD (((E.getD k v_).getD (n+1) v_).getD p 0).toNat v_).length:=by rw[cz,if_neg (fun e=>no e.1)]
       refine ab ?_;obtain⟨rf,pU⟩:=Sv.view (OS.sv Z hQ (i:=1) V);obtain⟨rt,pn,hR,f1,pD⟩:=SF.open l0 hQ (q:=2) (i:=(((E.getD k v_).getD (n+1) v_).getD p 0).toNat) V M;have f1:OS kx (sL (a_.getD (((E.getD k v_).getD (n+1) v_).getD p 0).toNat v_).a (a_.getD (((E.getD k v_).getD (n+1) v_).getD p 0).toNat v_).n (a_.getD (((E.getD k v_).getD (n+1) v_).getD p 0).toNat v_).k) ((N.set (((ae ((c.u.getD k v_).v.getD n v_)).getD q 0).toNat) ((N.getD (((ae ((c.u.getD k v_).v.getD n v_)).getD q 0).toNat) v_).set ((Int.tdiv (((E.getD k v_).getD (n+1) v_).getD p 0) 64).toNat) ⟨aD .or .u64 (((N.getD (((ae ((c.u.getD k v_).v.getD n v_)).getD q 0).toNat) v_).getD ((Int.tdiv (((E.getD k v_).getD (n+1) v_).getD p 0) 64).toNat) v_).n) (IntKind.u64.wrap (1 *2^(Nat.min ((Int.tmod (((E.getD k v_).getD (n+1) v_).getD p 0) 64).toNat) 64)))⟩)).getD (((E.getD k v_).getD (n+1) v_).getD p 0).toNat v_) pn:=f1;have rQ:=OS.nlen f1;have r3:in64 ((ae ((c.u.getD k v_).v.getD n v_)).getD q 0)->in64 (Int.tdiv ((ae ((c.u.getD k v_).v.getD n v_)).getD q 0) 64):=fun h=>vq h e_
       obtain⟨rg,n3⟩:=Sv.view (OS.sv f1 hR (i:=9) V);have sM:=fU (n3 ((Int.tdiv ((ae ((c.u.getD k v_).v.getD n v_)).getD q 0) 64).toNat));refine aY 14 0 19 32 [] [(31,(.int .u64 (aD .or .u64 ((((N.set (((ae ((c.u.getD k v_).v.getD n v_)).getD q 0).toNat) ((N.getD (((ae ((c.u.getD k v_).v.getD n v_)).getD q 0).toNat) v_).set ((Int.tdiv (((E.getD k v_).getD (n+1) v_).getD p 0) 64).toNat) ⟨aD .or .u64 (((N.getD (((ae ((c.u.getD k v_).v.getD n v_)).getD q 0).toNat) v_).getD ((Int.tdiv (((E.getD k v_).getD (n+1) v_).getD p 0) 64).toNat) v_).n) (IntKind.u64.wrap (1 *2^(Nat.min ((Int.tmod (((E.getD k v_).getD (n+1) v_).getD p 0) 64).toNat) 64)))⟩)).getD (((E.getD k v_).getD (n+1) v_).getD p 0).toNat v_).getD ((Int.tdiv ((ae ((c.u.getD k v_).v.getD n v_)).getD q 0) 64).toNat) v_).n) (IntKind.u64.wrap (1 *2^(Nat.min ((Int.tmod ((ae ((c.u.getD k v_).v.getD n v_)).getD q 0) 64).toNat) 64)))))),(32,(.pointer (some ⟨sB (sL (a_.getD (((E.getD k v_).getD (n+1) v_).getD p 0).toNat v_).a (a_.getD (((E.getD k v_).getD (n+1) v_).getD p 0).toNat v_).n (a_.getD (((E.getD k v_).getD (n+1) v_).getD p 0).toNat v_).k),sO (sL (a_.getD (((E.getD k v_).getD (n+1) v_).getD p 0).toNat v_).a (a_.getD (((E.getD k v_).getD (n+1) v_).getD p 0).toNat v_).n (a_.getD (((E.getD k v_).getD (n+1) v_).getD p 0).toNat v_).k)+((Int.tdiv ((ae ((c.u.getD k v_).v.getD n v_)).getD q 0) 64).toNat) *Rp.sz U64,none⟩)))] (Hr_ 0 3 (Ha_ (Sv.ix (j:=(((E.getD k v_).getD (n+1) v_).getD p 0)) (OS.sv Z hQ (i:=1) V)) (Hl_ 3 (ql 184 0 (vH (pU (((E.getD k v_).getD (n+1) v_).getD p 0).toNat)) V V) (Ha_ (vA (show(64:Int)≠0 from by decide) (vq (a:=((ae ((c.u.getD k v_).v.getD n v_)).getD q 0)) (b:=64) M e_)) (Ha_ (Sv.ix (j:=Int.tdiv ((ae ((c.u.getD k v_).v.getD n v_)).getD q 0) 64) (OS.sv f1 hR (i:=9) V)) (Hl_ 7 (ql 161 0 (vU (n3 ((Int.tdiv ((ae ((c.u.getD k v_).v.getD n v_)).getD q 0) 64).toNat))) V V) (Ha_ (show(64:Int)≠0 from by decide) (Ha_ (vu (n:=Int.tmod ((ae ((c.u.getD k v_).v.getD n v_)).getD q 0) 64) M) (Ha_ (show(0:Int)<=Int.tmod ((ae ((c.u.getD k v_).v.getD n v_)).getD q 0) 64 from by omega) (Ha_ (Sv.ix (j:=Int.tdiv ((ae ((c.u.getD k v_).v.getD n v_)).getD q 0) 64) (OS.sv f1 hR (i:=9) V)) Hn_)))))))))) hQ V V fun _=>gf (dm (α:=U64) (j:=(Int.tdiv ((ae ((c.u.getD k v_).v.getD n v_)).getD q 0) 64).toNat) (off:=0) (q:=9) ⟨aD .or .u64 ((((N.set (((ae ((c.u.getD k v_).v.getD n v_)).getD q 0).toNat) ((N.getD (((ae ((c.u.getD k v_).v.getD n v_)).getD q 0).toNat) v_).set ((Int.tdiv (((E.getD k v_).getD (n+1) v_).getD p 0) 64).toNat) ⟨aD .or .u64 (((N.getD (((ae ((c.u.getD k v_).v.getD n v_)).getD q 0).toNat) v_).getD ((Int.tdiv (((E.getD k v_).getD (n+1) v_).getD p 0) 64).toNat) v_).n) (IntKind.u64.wrap (1 *2^(Nat.min ((Int.tmod (((E.getD k v_).getD (n+1) v_).getD p 0) 64).toNat) 64)))⟩)).getD (((E.getD k v_).getD (n+1) v_).getD p 0).toNat v_).getD ((Int.tdiv ((ae ((c.u.getD k v_).v.getD n v_)).getD q 0) 64).toNat) v_).n) (IntKind.u64.wrap (1 *2^(Nat.min ((Int.tmod ((ae ((c.u.getD k v_).v.getD n v_)).getD q 0) 64).toNat) 64)))⟩ f1 hR V V V V V V V V (bg (x:=v_) M) V (by rintro cs ⟨rfl,_⟩;exact⟨a0a V,V,by(dsimp only;exact fM _ _ _)⟩)) V ?_
       rintro _ sy sS ⟨l4,pQ,_⟩;have qN:=OS.len' l4;refine ah 0 V ?_;obtain⟨pA,pR,l1⟩:=SF.shut pD fR pQ (q:=2) (m:=9) e_ V V l4;have rp:=FAM.len l1;refine aP ⟨.inl V,_,V,a_,(N.set (((ae ((c.u.getD k v_).v.getD n v_)).getD q 0).toNat) ((N.getD (((ae ((c.u.getD k v_).v.getD n v_)).getD q 0).toNat) v_).set ((Int.tdiv (((E.getD k v_).getD (n+1) v_).getD p 0) 64).toNat) ⟨aD .or .u64 (((N.getD (((ae ((c.u.getD k v_).v.getD n v_)).getD q 0).toNat) v_).getD ((Int.tdiv (((E.getD k v_).getD (n+1) v_).getD p 0) 64).toNat) v_).n) (IntKind.u64.wrap (1 *2^(Nat.min ((Int.tmod (((E.getD k v_).getD (n+1) v_).getD p 0) 64).toNat) 64)))⟩)).set (((E.getD k v_).getD (n+1) v_).getD p 0).toNat (((N.set (((ae ((c.u.getD k v_).v.getD n v_)).getD q 0).toNat) ((N.getD (((ae ((c.u.getD k v_).v.getD n v_)).getD q 0).toNat) v_).set ((Int.tdiv (((E.getD k v_).getD (n+1) v_).getD p 0) 64).toNat) ⟨aD .or .u64 (((N.getD (((ae ((c.u.getD k v_).v.getD n v_)).getD q 0).toNat) v_).getD ((Int.tdiv (((E.getD k v_).getD (n+1) v_).getD p 0) 64).toNat) v_).n) (IntKind.u64.wrap (1 *2^(Nat.min ((Int.tmod (((E.getD k v_).getD (n+1) v_).getD p 0) 64).toNat) 64)))⟩)).getD (((E.getD k v_).getD (n+1) v_).getD p 0).toNat v_).set ((Int.tdiv ((ae ((c.u.getD k v_).v.getD n v_)).getD q 0) 64).toNat) ⟨aD .or .u64 ((((N.set (((ae ((c.u.getD k v_).v.getD n v_)).getD q 0).toNat) ((N.getD (((ae ((c.u.getD k v_).v.getD n v_)).getD q 0).toNat) v_).set ((Int.tdiv (((E.getD k v_).getD (n+1) v_).getD p 0) 64).toNat) ⟨aD .or .u64 (((N.getD (((ae ((c.u.getD k v_).v.getD n v_)).getD q 0).toNat) v_).getD ((Int.tdiv (((E.getD k v_).getD (n+1) v_).getD p 0) 64).toNat) v_).n) (IntKind.u64.wrap (1 *2^(Nat.min ((Int.tmod (((E.getD k v_).getD (n+1) v_).getD p 0) 64).toNat) 64)))⟩)).getD (((E.getD k v_).getD (n+1) v_).getD p 0).toNat v_).getD ((Int.tdiv ((ae ((c.u.getD k v_).v.getD n v_)).getD q 0) 64).toNat) v_).n) (IntKind.u64.wrap (1 *2^(Nat.min ((Int.tmod ((ae ((c.u.getD k v_).v.getD n v_)).getD q 0) 64).toNat) 64)))⟩),a1,ax,aA,pA,_,fR,(HS.sub pR (a03 _ _)),Z,l1,V,(con_two M M no a0h a0h (fun i=>add_ok M X i) (fun i=>add_ok M X i))⟩
      rintro _ sw ⟨dj,rlc,c7,ci,c5,f6,r6,pE,pO,h0,hY,rfl,hcon⟩;have qa:=FAM.len hY;refine iy (am 2 V (wU 1 [] 73 73 [98] [(73,(iI ((p:Int)+1)))] (vi (n:=(p:Int)+1)) V fun _=>?_));refine n4 _ _ _ ?_ ⟨dj,rlc,p+1,c7,ci,c5,f6,_,(fT (hJ) pE),pO,h0,hY,⟨V,V,V,V,V,V,V,V,V,V,V,V,V,V,V,V,V,V,V,V,trivial⟩,V,(rw_yes M hA hcon rb.1 ro.1 jk),M⟩;omega
     have g9:=k3;have jk: ¬eok c k n ((ae ((c.u.getD k v_).v.getD n v_)).getD q 0) ((((E.getD k v_).getD (n+1) v_)).getD p 0):=fun he=>he.2 (g9 he.1)
     refine wU 1 [] 73 73 [98] [(73,(iI ((p:Int)+1)))] (vi (n:=(p:Int)+1)) V fun _=>?_
     refine n4 _ _ _ ?_ ⟨a_,N,p+1,a1,ax,aA,e0,_,(hJ),c9,Z,f4,⟨V,V,V,V,V,V,V,V,V,V,V,V,V,V,V,V,V,V,V,V,trivial⟩,V,(rw_no M hA jk),M⟩;omega
    refine wU 1 [] 60 60 [99] [(60,(iI ((q:Int)+1)))] (vi (n:=(q:Int)+1)) V fun _=>?_
    refine pY _ _ _ ?_ ⟨a_,N,q+1,a1,ax,aA,e0,_,(fT (hI) hJ),c9,Z,f4,⟨V,V,V,V,V,V,V,V,V,V,V,V,V,V,V,V,trivial⟩,V,(rw_e2s pl hA (show q<(ae ((c.u.getD k v_).v.getD n v_)).length by omega) M),M⟩;omega
   refine wU 1 [] 52 52 [100] [(52,(iI ((n:Int)+1)))] (vi (n:=(n:Int)+1)) V fun _=>?_
   refine pX _ _ _ ?_ ⟨hu,h4,n+1,b7,bk,b3,ez,_,(fT (fT (g8) hH) hI),(HS.sub dv (a03 _ _)),go,hg,⟨V,V,V,V,V,V,V,V,V,V,V,trivial⟩,V,(rw_e1s o6 (show(ae ((c.u.getD k v_).v.getD n v_)).length<=q by omega)),M⟩;omega
  refine wU 1 [] 44 44 [101] [(44,(iI ((k:Int)+1)))] (vi (n:=(k:Int)+1)) V fun _=>?_
  refine pW _ _ _ ?_ ⟨ht,h3,k+1,b6,bb,b2,et,_,(fT (g7) g8),(HS.sub hO (a03 _ _)),co,d2,⟨V,V,V,V,V,V,V,trivial⟩,V,(rw_e0 o5 (show(c.u.getD k v_).v.length=n by omega)),M⟩;omega
 refine ab (aY 2 0 102 103 [] [(103,(iI c.r))] (Hr_ 1 0 Hn_) hb V V fun _=>bd (cQ (v_:Hd) hb V V V V V V V V V V M M) V V ?_);rintro _ qX p2 ⟨ky,n6,rfl,oG,oK,_⟩;have jw:=HS.snoc oK;have iz:SF kr (List.replicate c.r.toNat (v_:Hd)) (List.replicate c.r.toNat ([]:List Int)) []:=SF.rep _;have qw:=FAM.len iz;refine za (sL ky (List.replicate c.r.toNat (v_:Hd)).length n6) (ah 3 V (aU 2 105 107 [] [(106,(iI (e1.length:Int))),(107,(iI 0))] (Hr_ 0 3 Hn_) jw V V fun _=>ak (fun(mm:Nat) f H'=> ∃(hz:List Hd) (kn:List (List U64)) (oh:List Hd) (ol:List (List Int)) (k:Nat) (ar:Option Addr) (av:Nat) (dt:Fp) (cg:Fp) (b9:Option Addr) (cc:Nat) (fi:Fp) (fd:Fp) (F':Fz),Fz.le kr F'/\HS (Base.of H []) F' H' [g1,cg,fd,(fP aq [(sL b9 hz.length cc)]),hl,dt,fi] R/\OS F' (sL ar oh.length av) oh dt/\OS F' (sL b9 hz.length cc) hz cg/\SF F' oh ol fi/\SF F' hz kn fd/\aB f [(1,(pT b1 0)),(3,(pT aq 0)),(15,(sL ar oh.length av)),(106,(iI (e1.length:Int))),(107,(iI (k:Int)))]/\mm=c.r.toNat-k/\(RwF c kn (j9 c))/\(ol.length=c.r.toNat)/\(∀r,r<k->Lst (dp ol r) (Sy (j9 c) r))/\(∀r,k<=r->dp ol r=[])/\(k<=c.r.toNat)) _ ⟨e1,h1,List.replicate c.r.toNat (v_:Hd),List.replicate c.r.toNat ([]:List Int),0,ky,n6,p2,b5,a8,bz,[],ef,_,fR,jw,oG,f9,iz,hf,⟨V,V,V,V,V,trivial⟩,V,(rw_last oc M),o_,(by intro r hr;omega),(fun r _=>row_rep),M⟩ ?_));rintro qT ri qY ⟨hz,kn,oh,ol,k,ar,av,dt,cg,b9,cc,fi,fd,pd,ih,ka,ds,hV,e6,hw,i1,rfl,o7,qp,o0,o1,hk⟩ oW;refine au _ i1 (fun _=>?_);clear i1;have pu:=FAM.len e6;have pq:=FAM.len hw;refine am 1 V (wT 2 [] 108 108 [] [(108,(.bool (decide ((k:Int)<(e1.length:Int)))))] V fun _=>zd 4 5 (fun pf=>?_) fun pf=>?_)
 ·have rJ:=o7.len;refine wT 2 [] 109 109 [16] [(16,(iI (k:Int)))] V fun _=>wT 2 [] 1 0 [17] [(17,(iI 0))] V fun _=>ak (fun(mm:Nat) f H'=> ∃(e2:List Hd) (e3:List (List U64)) (a4:List Hd) (b8:List (List Int)) (n:Nat) (T:Option Addr) (U:Nat) (ch:Fp) (ap:Fp) (aa:Option Addr) (an:Nat) (dd:Fp) (fj:Fp) (F':Fz),Fz.le pd F'/\HS (Base.of H []) F' H' [g1,ap,fj,(fP aq [(sL aa e2.length an)]),hl,ch,dd] R/\OS F' (sL T a4.length U) a4 ch/\OS F' (sL aa e2.length an) e2 ap/\SF F' a4 b8 dd/\SF F' e2 e3 fj/\aB f [(1,(pT b1 0)),(3,(pT aq 0)),(15,(sL T a4.length U)),(16,(iI (k:Int))),(17,(iI (n:Int))),(106,(iI (e1.length:Int))),(107,(iI (k:Int)))]/\mm=c.r.toNat-n/\(RwF c e3 (j9 c))/\(b8.length=c.r.toNat)/\(∀r,r<k->Lst (dp b8 r) (Sy (j9 c) r))/\(∀r,k<r->dp b8 r=[])/\(Lst (dp b8 k) (upS e3 k n))/\(n<=c.r.toNat)) _ ⟨hz,kn,oh,ol,0,ar,av,dt,cg,b9,cc,fi,fd,_,fR,ka,ds,hV,e6,hw,⟨V,V,V,V,V,V,V,trivial⟩,V,(o7),M,(o0),(fun r hr=>o1 r M),(by rw[o1 k (a0d _)];exact up_zero),M⟩ ?_
  rintro qU rj qZ ⟨e2,e3,a4,b8,n,T,U,ch,ap,aa,an,dd,fj,kp,hF,e4,a5,a3,e8,f8,i2,rfl,hB,o2,l5,l7,jq,hn⟩ kk;refine au _ i2 (fun _=>?_);clear i2;have py:=FAM.len e8;have pw:=FAM.len f8;have pF:=hB.len;have pH:=hB.row k M;have rD:((b8.getD k v_).length:Int)<=c.r:=Lst.len jq n7.1 (fun r h=>by have:=h.2;omega);refine am 2 V (aU 1 110 113 [] [(113,(.bool (decide ((n:Int)<c.r))))] (Hr_ 2 0 Hn_) e4 V V fun _=>zd 4 5 (fun pg=>?_) fun pg=>?_)
  ·have pF:=hB.len;have pH:=hB.row k M;obtain⟨qt,oU⟩:=Sv.view (OS.sv a3 e4 (i:=1) V);obtain⟨qA,ou,e5,dl,ib⟩:=SF.open f8 e4 (q:=2) (i:=k) V M;have dl:OS kp (sL (e2.getD k v_).a (e2.getD k v_).n (e2.getD k v_).k) (e3.getD k v_) ou:=dl;have qQ:=OS.nlen dl;obtain⟨qu,ki⟩:=Sv.view (OS.sv dl e5 (i:=7) V);have rv:=fU (ki (n/64));refine aU 1 116 129 [] [(129,(.bool (aD .and .u64 (Int.fdiv ((e3.getD k v_).getD (n/64) v_).n (2^(Nat.min (n%64) 64))) 1==1)))] (Hr_ 0 3 (Ha_ (Sv.ix (j:=(k:Int)) (OS.sv a3 e4 (i:=1) V)) (Hl_ 3 (ql 184 0 (vH (oU k)) V V) (Ha_ (vA (show(64:Int)≠0 from by decide) (vi (n:=((n/64:Nat):Int)))) (Ha_ (Sv.ix (j:=((n/64:Nat):Int)) (OS.sv dl e5 (i:=7) V)) (Hl_ 7 (ql 161 0 (vU (ki (n/64))) V V) (Ha_ (show(64:Int)≠0 from by decide) (Ha_ (vu (n:=((n%64:Nat):Int)) M) (Ha_ (show(0:Int)<=((n%64:Nat):Int) from by omega) Hn_))))))))) e4 V V fun _=>zI 0 2 (fun ph=>?_) fun ph=>?_
   ·have b0:=j8 (s:=e3.getD k v_) (k:=n/64) (b:=n%64) X M;rw[show 64 *(n/64)+n%64=n by omega]at b0;refine ab ?_;obtain⟨qv,oV⟩:=Sv.view (OS.sv a5 e5 (i:=5) V);obtain⟨qB,ov,oL,g2,oz⟩:=SF.open e8 e5 (q:=6) (i:=k) V M;have g2:OS kp (sL (a4.getD k v_).a (a4.getD k v_).n (a4.getD k v_).k) (b8.getD k v_) ov:=g2;have qR:=OS.nlen g2;refine bL 7 0 130 136 [] [(130,(sL T a4.length U)),(131,(iI (k:Int))),(135,(sL (a4.getD k v_).a (a4.getD k v_).n (a4.getD k v_).k)),(136,(iI (n:Int)))] (Ha_ (Sv.ix (j:=(k:Int)) (OS.sv a5 e5 (i:=5) V)) (Hl_ 5 (ql 22 0 (vH (oV k)) V V) Hn_)) (by kernel_rfl) V fun _=>zlo ([(n:Int)]:List Int) oL V (RL.cs ⟨V,by omega⟩ RL.nl) V fun q5 rL rX q0 oH kc=>zao 8 g2 kc (OS.sv oH kc (i:=9) V) V V V M fun hC hS rY q1 oI kd=>bL 1 9 139 139 [] [(139,(.pointer (some ⟨sB (sL T a4.length U),sO (sL T a4.length U)+k *Rp.sz Hd,none⟩)))] (Ha_ (Sv.ix (j:=(k:Int)) (OS.sv a5 kd (i:=5) V)) Hn_) (by kernel_rfl) V fun _=>?_
    obtain⟨ow,oM,i3⟩:=SF.shutN (⟨hC,((b8.getD k v_)++([(n:Int)]:List Int)).length,hS⟩:Hd) oz fR kd (q:=6) (m:=8) e_ V V oI;have qx:=FAM.len i3;refine gf (dm (α:=Hd) (j:=k) (off:=0) (q:=5) (⟨hC,((b8.getD k v_)++([(n:Int)]:List Int)).length,hS⟩:Hd) a5 oM V V V V V V V V (bg (x:=v_) M) V (by rintro cs rfl;exact⟨a0a V,V⟩)) V ?_;rintro _ q2 p3 ⟨hK,oO,_⟩;have qo:=OS.len' hK;refine ah 2 V (wU 1 [] 114 115 [17] [(17,(iI ((n:Int)+1)))] (vi (n:=(n:Int)+1)) V fun _=>?_);obtain⟨ox,oP,i4⟩:=SF.shut0 ib fR oO (q:=2) (m:=7) e_ V V dl;have qy:=FAM.len i4;refine kk _ _ _ ?_ ⟨e2,e3,a4.set k (⟨hC,((b8.getD k v_)++([(n:Int)]:List Int)).length,hS⟩:Hd),b8.set k ((b8.getD k v_)++([(n:Int)]:List Int)),n+1,T,U,p3,ap,aa,an,ow,ox,_,(hF),(HS.sub oP (a03 _ _)),(OS.norm hK),a3,i3,i4,(agC V (agC V (agC (show Value.slice T a4.length U=Value.slice T (a4.set k (⟨hC,((b8.getD k v_)++([(n:Int)]:List Int)).length,hS⟩:Hd)).length U by rw[OS.len' hK]) ⟨V,V,V,V,trivial⟩))),V,X,(by(rw[a0h];exact o2)),(fun r hr=>by(rw[cR M,if_neg M];exact l5 r hr)),(fun r hr=>by(rw[cR M,if_neg M];exact l7 r hr)),(by(rw[cR M,if_pos rfl];exact up_yes jq (b0.1 X))),M⟩;omega
   have b0:=j8 (s:=e3.getD k v_) (k:=n/64) (b:=n%64) X M;rw[show 64 *(n/64)+n%64=n by omega]at b0;refine wU 1 [] 114 115 [17] [(17,(iI ((n:Int)+1)))] (vi (n:=(n:Int)+1)) V fun _=>?_
   obtain⟨oy,oQ,jb⟩:=SF.shut0 ib fR e5 (q:=2) (m:=7) e_ V V dl;have qz:=FAM.len jb;refine kk _ _ _ ?_ ⟨e2,e3,a4,b8,n+1,T,U,ch,ap,aa,an,dd,oy,_,(hF),(HS.sub oQ (a03 _ _)),a5,a3,e8,jb,⟨V,V,V,V,V,V,V,trivial⟩,V,X,(o2),(fun r hr=>by exact l5 r hr),(fun r hr=>by exact l7 r hr),(up_no jq (fun h=>absurd (b0.2 h) X)),M⟩;omega
  refine wU 1 [] 107 107 [140] [(107,(iI ((k:Int)+1)))] (vi (n:=(k:Int)+1)) V fun _=>?_
  refine oW _ _ _ ?_ ⟨e2,e3,a4,b8,k+1,T,U,ch,ap,aa,an,dd,fj,_,(fT (ih) hF),e4,a5,a3,e8,f8,⟨V,V,V,V,V,trivial⟩,V,(hB),M,(fin_row hB M vF M l5 jq),(fun r hr=>l7 r M),M⟩;omega
 refine wT 1 [] 2 2 [141] [(2,(sL ar oh.length av))] V fun _=>?_
 obtain⟨qV,ik,oR,oD⟩:=SF.freeze e6 ka (q:=6) V;replace ds:=ds.mono ik;obtain⟨qW,il,oT,oJ,qO⟩:=OS.frz ds oR (i:=5) V;have g3:=SR.rows oJ (FAM.len e6) (fun i hi=>SR.mono il (oD i hi));have qS:=SR.len' g3;have qr:=SR.norm g3;refine aj ⟨.inr V,_,V,ar,av,ol,_,(fT (fT (fT (fT (fT (fT (it) hG) g6) g7) ih) ik) il),(HS.forget oT),(Eq.trans (b:=Value.slice ar oh.length av) V (by rw[SR.len' g3])),(SR.norm g3),(fun _=>inf_of qp M o0),(fun h=>absurd (hv.symm.trans h) e_)⟩
end nb
open nb
namespace nc
def usedI(v:VInT):List Int:=aF v++ae v
def usedB(b:BlkT):List Int:=b.v.flatMap usedI++d6 b
def usedC(c:VFnT):List Int:=c.u.flatMap usedB
def UsP(c:VFnT)(k n:Nat)(l:List Int):List Int:=(c.u.take k).flatMap usedB++((bB c k).v.take n).flatMap usedI++l
structure CntF(c:VFnT)(L o:List Int):Prop where
 len:o.length=c.r.toNat
 at_: ∀r,r<c.r.toNat->o.getD r 0=(L.count (r:Int):Int)
theorem km{c:VFnT}:CntF c (UsP c 0 0 []) (List.replicate c.r.toNat 0):=⟨a0O,fun r E=>by
 have e:UsP c 0 0 []=[]:=by unfold UsP;simp
 rw[e,a02,a1d,if_pos E];rfl⟩
theorem cnt_step{c:VFnT}{k n:Nat}{l o:List Int}{x:Int}(h:CntF c (UsP c k n l) o)(Z:0<=x/\x<c.r):CntF c (UsP c k n (l++[x])) (o.set x.toNat (o.getD x.toNat 0+1)):=⟨a0h.trans h.len,fun r T=>by
 have e:UsP c k n (l++[x])=UsP c k n l++[x]:=(a0l _ _ _).symm;rw[e,List.count_append,List.count_singleton];have U:=h.len;by_cases E:x.toNat=r
 ·subst E;have N:((x.toNat:Nat):Int)=x:=M
  rw[a02,List.getElem?_set_self M,a0I,h.at_ _ T,N];simp
 rw[a02,a1W E,←a02,h.at_ r T,if_neg l_];simp⟩
theorem cnt_rng{c:VFnT}{L o:List Int}{x:Int}(h:CntF c L o)(N:0<=x/\x<c.r)(E:L.length<=1125899906842624):0<=o.getD x.toNat 0/\o.getD x.toNat 0<=1125899906842624/\x.toNat<o.length:=by rw[h.at_ _ M,h.len];have:=List.count_le_length (a:=((x.toNat:Nat):Int)) (l:=L);omega
theorem us_instr{c:VFnT}{k n:Nat}(E:n<(bB c k).v.length):UsP c k n (aF ((bB c k).v.getD n default)++ae ((bB c k).v.getD n default))=UsP c k (n+1) []:=by unfold UsP;rw[aX E (d:=default),a2u,a0o];simp[usedI]
theorem us_block{c:VFnT}{k:Nat}(E:k<c.u.length):UsP c k (bB c k).v.length (d6 (bB c k))=UsP c (k+1) 0 []:=by unfold UsP;rw[aX E (d:=default),a2u,a0T];simp[usedB,bB]
theorem us_all{c:VFnT}{k:Nat}(E:c.u.length<=k):UsP c k 0 []=usedC c:=by unfold UsP usedC;rw[a0i E];simp
theorem fm_len{α:Type}{f:α->List Int}{B:Nat}: ∀{l:List α},(∀x∈l,(f x).length<=B)->(l.flatMap f).length<=l.length *B
 | [],_=>a0D _
 |x::l,h=>by
  have E:=fm_len (l:=l) fun y T=>h y (a0f _ T)
  have N:=h x (a0n ..);rw[List.flatMap_cons,a01,a05,a1t];omega
theorem us_len{c:VFnT}{k n:Nat}{l:List Int}(v:VF c)(aa: ∀j,(bB c j).v.length<=1073741824)(hk:k<c.u.length)(hl:l.length<=20):(UsP c k n l).length<=1125899906842624:=by
 have hI: ∀b,b<c.u.length->∀x∈(bB c b).v,(usedI x).length<=10:=fun b hb x hx=>by obtain⟨i,hi,rfl⟩:=a0t.1 hx;have E:=v.v b hb i hi;rw[a02,a06 hi,a0I]at E;have N:=eF (v:=(bB c b).v[i]);have T:=dI (v:=(bB c b).v[i]);have U:=(bF E).2.2;unfold usedI;rw[a01];omega
 have hB: ∀x∈c.u.take k,(usedB x).length<=10737418241:=fun x hx=>by
  obtain⟨b,hb,rfl⟩:=a0t.1 (a1k hx);have e:c.u[b]=bB c b:=by unfold bB;rw[a02,a06 hb];rfl
  rw[e];have E:=fm_len (hI b hb);have N:=aa b;have T:(d6 (bB c b)).length<=1:=by unfold d6;split<;>simp
  unfold usedB;rw[a01];omega
 have E:=fm_len hB;have N:=fm_len (l:=(bB c k).v.take n) fun x hx=>hI k hk x (a1k hx)
 have T:=aa k;have U:=v.nb;have a_:(c.u.take k).length<=1000:=by rw[a0p];omega
 have Z:((bB c k).v.take n).length<=1073741824:=by rw[a0p];omega
 unfold UsP;rw[a01,a01];have h7:(c.u.take k).length *10737418241<=1000 *10737418241:=a0C _ a_;omega
end nc
open nc
namespace ni
variable (ex:FuncId) {F:Fz} {H:Heap} {R:List Fp}
theorem e0_iff{c:VFnT}{k n:Nat}(U:(bB c k).v.length=n)(a x:Nat):E1 c k n a x↔E0 c (k+1) a x:=by
 unfold E1 E0;constructor
 ·rintro(⟨b,i,N,E⟩|⟨i,N,E⟩)
  ·exact⟨b,i,by omega,E⟩
  exact⟨k,i,a1b _,by omega,E⟩
 rintro⟨b,i,N,E,T⟩;rcases a0g b k with hb|hb
 ·exact .inl ⟨b,i,hb,E,T⟩
 have:b=k:=M
 subst this;exact .inr ⟨i,by omega,T⟩
theorem e1_iff{c:VFnT}{k:Nat}(a x:Nat):E0 c k a x↔E1 c k 0 a x:=⟨.inl,fun h=>h.elim id fun⟨i,h,_⟩=>absurd h (a0B _)⟩
theorem e1s_iff{c:VFnT}{k n q:Nat}(T:(ae (lK c k n)).length<=q)(a x:Nat):E2 c k n q a x↔E1 c k (n+1) a x:=by
 unfold E2 E1;rw[a0i T];constructor
 ·rintro((h|⟨i,N,E⟩)|h)
  ·exact .inl h
  ·exact .inr ⟨i,by omega,E⟩
  exact .inr ⟨n,a1b _,h⟩
 rintro(h|⟨i,N,E⟩)
 ·exact .inl (.inl h)
 rcases a0g i n with hi|hi
 ·exact .inl (.inr ⟨i,hi,E⟩)
 have:i=n:=M
 subst this;exact .inr E
theorem e2_iff{c:VFnT}{k n:Nat}(a x:Nat):E1 c k n a x↔E2 c k n 0 a x:=⟨.inl,fun h=>h.elim id fun h=>by simp at h⟩
theorem e2s_iff{c:VFnT}{k n q p:Nat}{l:List Int}(U:Lst l (ptS c k (n+1)))(hq:q<(ae (lK c k n)).length)(Z:l.length<=p)(a x:Nat):E3 c k n q l p a x↔E2 c k n (q+1) a x:=by
 unfold E3 E2;rw[a0i Z,aX hq (d:=0),a07,a08,U.mem];have e:((x:Int)).toNat=x:=M
 rw[e];constructor
 ·rintro((h|⟨E,N,T⟩)|⟨E,⟨_,N⟩,T⟩)
  ·exact .inl h
  ·exact .inr ⟨.inl E,N,T⟩
  exact .inr ⟨.inr E,N,T⟩
 rintro(h|⟨E|E,N,T⟩)
 ·exact .inl (.inl h)
 ·exact .inl (.inr ⟨E,N,T⟩)
 exact .inr ⟨E,⟨by omega,N⟩,T⟩
theorem e3_iff{c:VFnT}{k n q:Nat}{l:List Int}(a x:Nat):E2 c k n q a x↔E3 c k n q l 0 a x:=⟨.inl,fun h=>h.elim id fun h=>by simp at h⟩
structure RlF(c:VFnT)(g:List (List Int))(R:Nat->Nat->Prop):Prop where
 len:g.length=c.r.toNat
 row: ∀r,r<c.r.toNat->Lst (g.getD r v_) (Sy R r)
 rng: ∀r,(g.getD r v_).length<=3000/\∀x∈g.getD r v_,0<=x/\x<c.r
theorem RlF.iff{c:VFnT}{g:List (List Int)}{R E:Nat->Nat->Prop}(h:RlF c g R)(k: ∀a x,R a x↔E a x):RlF c g E:=⟨h.len,fun r N=>Lst.ext (h.row r N) fun y=>Sy.iff k r y,h.rng⟩
theorem rl_zero{c:VFnT}:RlF c (List.replicate c.r.toNat ([]:List Int)) (E0 c 0):=by
 have e: ∀r,(List.replicate c.r.toNat ([]:List Int)).getD r v_=[]:=fun r=>by rw[a02,a1d];split<;>rfl
 refine⟨a0O,fun r _=>?_,fun r=>?_⟩
 ·rw[e];exact Lst.nil fun y h=>by rcases h with⟨b,_,h,_⟩|⟨b,_,h,_⟩<;>exact absurd h (a0B _)
 rw[e];exact⟨a0D _,fun x E=>by cases E⟩
theorem rl_yes{c:VFnT}(v:VF c){g:List (List Int)}{k n q p:Nat}{l:List Int}(hp:p<l.length)(h:RlF c g (E3 c k n q l p))(hn:eok c k n ((ae (lK c k n)).getD q 0) (l.getD p 0))(ha:0<=(ae (lK c k n)).getD q 0/\(ae (lK c k n)).getD q 0<c.r)(hx:0<=l.getD p 0/\l.getD p 0<c.r):
  RlF c ((g.set ((ae (lK c k n)).getD q 0).toNat (dB (g.getD ((ae (lK c k n)).getD q 0).toNat v_) (l.getD p 0))).set (l.getD p 0).toNat (dB (g.getD (l.getD p 0).toNat v_) ((ae (lK c k n)).getD q 0))) (E3 c k n q l (p+1)):=by
 generalize ea:(ae (lK c k n)).getD q 0=a at *
 generalize ex:l.getD p 0=x at *
 have hl:=h.len
 have hr:=v.r
 have ai:a.toNat≠x.toNat:=fun e=>hn.1 M
 have e: ∀r,((g.set a.toNat (dB (g.getD a.toNat v_) x)).set x.toNat (dB (g.getD x.toNat v_) a)).getD r v_=if x.toNat=r then dB (g.getD r v_) a else if a.toNat=r then dB (g.getD r v_) x else g.getD r v_:=fun r=>by
  rw[cz,cz];by_cases T:x.toNat=r
  ·subst T;rw[if_pos ⟨V,by rw[a0h];omega⟩,if_pos rfl]
  rw[if_neg (fun N=>T N.1),if_neg T];by_cases U:a.toNat=r
  ·subst U;rw[if_pos ⟨V,by omega⟩,if_pos rfl]
  rw[if_neg (fun N=>U N.1),if_neg U]
 have E: ∀r y,Sy (E3 c k n q l (p+1)) r y↔Sy (E3 c k n q l p) r y\/(r=a.toNat/\y=x.toNat)\/(r=x.toNat/\y=a.toNat):=fun r y=>by
  unfold Sy;rw[ji hp,ji hp,ea,ex];constructor
  ·rintro((T|⟨T,N,_⟩)|(T|⟨T,N,_⟩))
   ·exact .inl (.inl T)
   ·exact .inr (.inl ⟨by omega,by omega⟩)
   ·exact .inl (.inr T)
   exact .inr (.inr ⟨by omega,by omega⟩)
  rintro((T|T)|⟨T,N⟩|⟨T,N⟩)
  ·exact .inl (.inl T)
  ·exact .inr (.inl T)
  ·subst T N;exact .inl (.inr ⟨by omega,by omega,eok_of hn ha.1 hx.1⟩)
  subst T N;exact .inr (.inr ⟨by omega,by omega,eok_of hn ha.1 hx.1⟩)
 have R: ∀r,∀y∈((g.set a.toNat (dB (g.getD a.toNat v_) x)).set x.toNat (dB (g.getD x.toNat v_) a)).getD r v_,0<=y/\y<c.r:=fun r y Z=>by
  rw[e]at Z;split at Z
  ·rcases im.1 Z with rfl|Z
   ·exact ha
   exact(h.rng r).2 y Z
  split at Z
  ·rcases im.1 Z with rfl|Z
   ·exact hx
   exact(h.rng r).2 y Z
  exact(h.rng r).2 y Z
 have W: ∀r,r<c.r.toNat->Lst (((g.set a.toNat (dB (g.getD a.toNat v_) x)).set x.toNat (dB (g.getD x.toNat v_) a)).getD r v_) (Sy (E3 c k n q l (p+1)) r):=fun r an=>by
  rw[e];have a_:=h.row r an;split
  ·rename_i T;refine Lst.ext (Lst.v a_ ha.1) fun y=>?_
   rw[E];constructor
   ·rintro(N|N)
    ·exact .inl N
    exact .inr (.inr ⟨T.symm,by omega⟩)
   rintro(N|⟨N,_⟩|⟨_,N⟩)
   ·exact .inl N
   ·exact absurd (N.symm.trans T.symm) ai
   exact .inr M
  rename_i T;split
  ·rename_i U;refine Lst.ext (Lst.v a_ hx.1) fun y=>?_
   rw[E];constructor
   ·rintro(N|N)
    ·exact .inl N
    exact .inr (.inl ⟨U.symm,by omega⟩)
   rintro(N|⟨_,N⟩|⟨N,_⟩)
   ·exact .inl N
   ·exact .inr M
   exact absurd N.symm T
  rename_i U;refine Lst.ext a_ fun y=>?_
  rw[E];constructor
  ·exact .inl
  rintro(N|⟨N,_⟩|⟨N,_⟩)
  ·exact N
  ·exact absurd N.symm U
  exact absurd N.symm T
 refine⟨by rw[a0h,a0h];exact hl,W,fun r=>⟨?_,R r⟩⟩
 rcases a0g r c.r.toNat with T|T
 ·have:=lF 0 hr.1 (W r T).asc (R r);omega
 rw[cb (by rw[a0h,a0h];omega)];exact a0D _
theorem rl_no{c:VFnT}{g:List (List Int)}{k n q p:Nat}{l:List Int}(Z:p<l.length)(h:RlF c g (E3 c k n q l p))(U: ¬eok c k n ((ae (lK c k n)).getD q 0) (l.getD p 0)):RlF c g (E3 c k n q l (p+1)):=h.iff fun a x=>by rw[ji Z];exact⟨.inl,fun h=>h.elim id fun⟨N,T,E⟩=>absurd (by rw[N,T]at E;exact E) U⟩
theorem end_rng{c:VFnT}{b:Nat}(v:VF c)(N:b<c.u.length): ∀x∈d6 (bB c b),0<=x/\x<c.r:=fun x E=>by
 unfold d6 at E;split at E
 ·rename_i h;rw[a08]at E;subst E;exact v.f b N h
 cases E
theorem rl_fin{c:VFnT}{g:List (List Int)}{b:Nat}(N:c.u.length<=b)(E:b<=c.u.length)(h:RlF c g (E0 c b)):InF c g:=by
 have e:b=c.u.length:=M
 subst e;exact⟨h.len,h.row⟩
theorem rinter_c{b7:Option Addr}{c8:Nat}(c:VFnT)(hs:HS (.of H []) F H [] R)(l2:in64 c.m)(l3:in64 c.r)(an:SR F (sL b7 c.u.length c8) c.u)(hT:TB 37 tabC F)(ao: ∀j,(c.u.getD j v_).v.length<=1073741822):kKt ex 29 [(aG [(iI c.m),(iI c.r),(sL b7 c.u.length c8)])] H fun v H'=> ∃(ag:Option Addr) (kg:Nat) (g:List (List Int)) (F':Fz),Fz.le F F'/\HS (.of H []) F' H' [] R/\v=sL ag g.length kg/\SR F' (sL ag g.length kg) g/\(ca c=true->InF c g)/\(ca c=false->g=[]):=by
 refine aC Tryz.func29 V V (am 1 V (ab (bd (aR hs V V) V V ?_)));rintro _ H2 _ ⟨b1,rfl,f2,_⟩;let hu:Value:=(aG [(iI c.m),(iI c.r),(sL b7 c.u.length c8)])
 refine za (sL none 0 0) (ah 3 V (ab (aY 1 0 12 12 [] [(12,hu)] (Hr_ 0 0 Hn_) f2 V V fun _=>zc (m3.gI ex c (HS.call f2) M M an hT (fun j=>a0e (ao j) M)) ?_)));rintro _ H4 ⟨r4,F4,e0,dd,rfl,rfl⟩;replace dd:=HS.back f2 V dd;replace hT:=hT.mono e0;replace an:=an.mono e0;refine bL 1 2 14 14 [] [(14,(.bool (!(ca c))))] Hn_ (by kernel_rfl) V fun _=>ah 1 V (zI 1 2 (fun c6=>?_) fun c6=>?_)
 ·have hv:=c6;refine wT 1 [] 2 2 [] [(2,(sL none 0 0))] V fun _=>aj ⟨.inr V,_,V,none,0,([]:List (List Int)),_,(e0),(HS.forget dd),V,(SR.nil:SR F4 (sL none 0 0) ([]:List (List Int))),(fun h=>absurd (h.symm.trans hv) e_),(fun _=>rfl)⟩
 have hv:=c6;have vF:=e7 hv;have oR:=vF.nb;have ja:=vF.r;refine ab (aY 2 0 15 16 [] [(16,(iI c.r))] (Hr_ 1 0 Hn_) dd V V fun _=>bd (cQ ([]:(List Int)) dd V V V V V V V V V ⟨none,0,V,SR.nil⟩ M M) V V ?_);rintro _ n3 p9 ⟨a9,k9,rfl,ib,hF,_⟩;let e3:Fp:=(fP b1 [(iI c.m),(iI c.r),(sL b7 c.u.length c8)])
 refine za (sL a9 (List.replicate c.r.toNat ([]:(List Int))).length k9) (ah 3 V (wT 2 [] 1 0 [4] [(4,(iI 0))] V fun _=>ak (fun(mm:Nat) f H'=> ∃(g1:List (List Int)) (b:Nat) (av:Option Addr) (aw:Nat) (bb:Fp) (F':Fz),Fz.le F4 F'/\HS (Base.of H []) F' H' [e3,bb] R/\OS F' (sL av g1.length aw) g1 bb/\aB f [(1,(pT b1 0)),(3,(sL av g1.length aw)),(4,(iI (b:Int)))]/\mm=c.u.length-b/\(RlF c g1 (E0 c b))/\(b<=c.u.length)) _ ⟨List.replicate c.r.toNat ([]:(List Int)),0,a9,k9,p9,_,fR,hF,ib,⟨V,V,V,trivial⟩,V,(rl_zero),M⟩ ?_));rintro l8 oo n4 ⟨g1,b,av,aw,bb,m0,b9,b5,a7,fi,rfl,hl,hb⟩ hI;refine au _ fi (fun _=>?_);clear fi;replace hT:=hT.mono b9;replace an:=an.mono b9;refine am 2 V (aU 1 18 22 [] [(22,(.bool (decide ((b:Int)<(c.u.length:Int)))))] (Hr_ 2 0 Hn_) b5 V V fun _=>zd 4 5 (fun h6=>?_) fun h6=>?_)
 ·have a6:b<c.u.length:=M
  have oP:=ao b;refine ab (aY 2 0 25 26 [] [(25,hu),(26,(iI (b:Int)))] (Hr_ 0 0 Hn_) b5 V V fun _=>zc (mj.rlp_c ex c (b:Int) (HS.call b5) M M an M hT (fun j=>a0e (ao j) M)) ?_);rintro _ n6 ⟨bk,b2,E,hS,cc,d1,rfl,aq,l0,lr⟩;replace d1:=HS.back b5 V d1;replace a7:=a7.mono cc;refine za (sL bk E.length b2) (ah 2 V ?_);have pf:PtF c b E:=(by assumption:ca c=true->0<=((b:Nat):Int)->((b:Nat):Int)<(c.u.length:Int)->PtF c ((b:Nat):Int).toNat E) hv M M;have oT:(E).length=(c.u.getD b v_).v.length+1:=pf.len;refine wT 2 [] 1 0 [6] [(6,(iI 0))] V fun _=>ak (fun(mm:Nat) f H'=> ∃(g2:List (List Int)) (k:Nat) (aA:Option Addr) (a2:Nat) (a4:Fp) (F':Fz),Fz.le hS F'/\HS (Base.of H []) F' H' [e3,a4] R/\OS F' (sL aA g2.length a2) g2 a4/\aB f [(1,(pT b1 0)),(3,(sL aA g2.length a2)),(4,(iI (b:Int))),(5,(sL bk E.length b2)),(6,(iI (k:Int)))]/\mm=(c.u.getD b v_).v.length-k/\(RlF c g2 (E1 c b k))/\(k<=(c.u.getD b v_).v.length)) _ ⟨g1,0,av,aw,bb,_,fR,d1,a7,⟨V,V,V,V,V,trivial⟩,V,(hl.iff e1_iff),M⟩ ?_
  rintro l9 ot oa ⟨g2,k,aA,a2,a4,ne,b3,ar,a8,fj,rfl,hn,hk⟩ hJ;refine au _ fj (fun _=>?_);clear fj;replace hT:=(hT.mono cc).mono b3;replace an:=(an.mono cc).mono b3;replace aq:=aq.mono b3;refine am 2 V ?_;obtain⟨k3,f4⟩:=Sv.view (SR.sv an ar);obtain⟨it,iz,i1,i2,ko⟩:=BlkT.fx (f4 b);refine aU 1 28 36 [] [(36,(.bool (decide ((k:Int)<((c.u.getD b v_).v.length:Int)))))] (Hr_ 2 0 (Ha_ (Sv.ix (j:=(b:Int)) (SR.sv an ar)) (Hl_ 6 (ql 80 0 (BlkT.vw (f4 b)) V V) Hn_))) ar V V fun _=>zd 4 5 (fun h7=>?_) fun h7=>?_
  ·have dj:k<(c.u.getD b v_).v.length:=M
   have pt:Lst ((E).getD (((k:Nat):Int)+1).toNat v_) (ptS c b (k+1)):=pf.pt (k+1) dj;have oO:=Lst.len pt ja.1 (fun r h=>iG vF a6 h);have al: ∀x∈ae ((c.u.getD b v_).v.getD k v_),0<=x/\x<c.r:=(bF (vF.v b a6 k dj)).2.1;have oF:=dI (v:=((c.u.getD b v_).v.getD k v_));refine ab ?_;obtain⟨k4,f5⟩:=Sv.view (SR.sv an ar);obtain⟨i3,i4,jb,jq,e2⟩:=BlkT.fx (f5 b);obtain⟨b8,f6⟩:=Sv.view (SR.sv e2 ar);obtain⟨jw,ka,kc,kd,ki,hf⟩:=VInT.fx (f6 k);let hw:Value:=(aG [(iI ((c.u.getD b v_).v.getD k v_).i.op),(iI ((c.u.getD b v_).v.getD k v_).i.a),(iI ((c.u.getD b v_).v.getD k v_).i.b),(iI ((c.u.getD b v_).v.getD k v_).i.c),(iI ((c.u.getD b v_).v.getD k v_).i.n),(sL (cA (b8 k) 5) ((c.u.getD b v_).v.getD k v_).args.length (cK (b8 k) 5))])
   refine aY 9 0 39 47 [] [(47,hw)] (Hr_ 1 0 (Ha_ (Sv.ix (j:=(b:Int)) (SR.sv an ar)) (Hl_ 5 (ql 80 0 (BlkT.vw (f5 b)) V V) (Ha_ (Sv.ix (j:=(k:Int)) (SR.sv e2 ar)) (Hl_ 8 (qn 88 0 6 (VInT.vw (f6 k)) V V V V) Hn_))))) ar V V fun _=>zn ar V fun e5 ob hG=>sgo 1 10 1 0 [] [] (Hr_ 10 2 Hn_) hG V V fun lf oc d2=>ah 2 V (ab (aY 1 0 48 48 [] [(48,hw)] (Hr_ 0 2 Hn_) d2 V V fun _=>?_))
   refine zc (ma.kN ex ((c.u.getD b v_).v.getD k v_) (HS.call d2) M M M M M hf hT) ?_;rintro _ oh ⟨dl,ez,oG,hq,hV,cg,ef,rfl,U,rfl⟩;replace ef:=HS.back d2 V ef;replace a8:=a8.mono cg;let hz:Fp:=(fP e5 [(iI ((c.u.getD b v_).v.getD k v_).i.op),(iI ((c.u.getD b v_).v.getD k v_).i.a),(iI ((c.u.getD b v_).v.getD k v_).i.b),(iI ((c.u.getD b v_).v.getD k v_).i.c),(iI ((c.u.getD b v_).v.getD k v_).i.n),(sL (cA (b8 k) 5) ((c.u.getD b v_).v.getD k v_).args.length (cK (b8 k) 5))])
   refine za (sL dl (ae ((c.u.getD b v_).v.getD k v_)).length ez) (ah 2 V (wT 2 [] 1 0 [9] [(9,(iI 0))] V fun _=>ak (fun(mm:Nat) f H'=> ∃(g3:List (List Int)) (i:Nat) (a1:Option Addr) (a3:Nat) (a5:Fp) (F':Fz),Fz.le hV F'/\HS (Base.of H []) F' H' [e3,a5,hz,hq] R/\OS F' (sL a1 g3.length a3) g3 a5/\aB f [(1,(pT b1 0)),(3,(sL a1 g3.length a3)),(4,(iI (b:Int))),(5,(sL bk E.length b2)),(6,(iI (k:Int))),(7,(pT e5 0)),(8,(sL dl (ae ((c.u.getD b v_).v.getD k v_)).length ez)),(9,(iI (i:Int)))]/\mm=(ae ((c.u.getD b v_).v.getD k v_)).length-i/\(RlF c g3 (E2 c b k i))/\(i<=(ae ((c.u.getD b v_).v.getD k v_)).length)) _ ⟨g2,0,aA,a2,a4,_,fR,ef,a8,⟨V,V,V,V,V,V,V,V,trivial⟩,V,(hn.iff e2_iff),M⟩ ?_));rintro mk ou ol ⟨g3,i,a1,a3,a5,hW,b4,f3,dk,f0,rfl,hp,hi⟩ hK;refine au _ f0 (fun _=>?_);clear f0;replace hT:=(hT.mono cg).mono b4;replace aq:=(aq.mono cg).mono b4;replace U:=U.mono b4;refine am 2 V (wT 1 [] 50 53 [] [(53,(.bool (decide ((i:Int)<((ae ((c.u.getD b v_).v.getD k v_)).length:Int)))))] V fun _=>zd 4 5 (fun h8=>?_) fun h8=>?_)
   ·have jk:=dG al (k:=i) M;refine wT 2 [] 1 0 [10] [(10,(iI 0))] V fun _=>ak (fun(mm:Nat) f H'=> ∃(g4:List (List Int)) (j:Nat) (a_:Option Addr) (Z:Nat) (ax:Fp) (F':Fz),Fz.le hW F'/\HS (Base.of H []) F' H' [e3,ax,hz,hq] R/\OS F' (sL a_ g4.length Z) g4 ax/\aB f [(1,(pT b1 0)),(3,(sL a_ g4.length Z)),(4,(iI (b:Int))),(5,(sL bk E.length b2)),(6,(iI (k:Int))),(7,(pT e5 0)),(8,(sL dl (ae ((c.u.getD b v_).v.getD k v_)).length ez)),(9,(iI (i:Int))),(10,(iI (j:Int)))]/\mm=((E).getD (((k:Nat):Int)+1).toNat v_).length-j/\(RlF c g4 (E3 c b k i ((E).getD (((k:Nat):Int)+1).toNat v_) j))/\(j<=((E).getD (((k:Nat):Int)+1).toNat v_).length)) _ ⟨g3,0,a1,a3,a5,_,fR,f3,dk,⟨V,V,V,V,V,V,V,V,V,trivial⟩,V,(hp.iff e3_iff),M⟩ ?_
    rintro mx ov hg ⟨g4,j,a_,Z,ax,nm,bl,N,T,f1,rfl,b6,hj⟩ g6;refine au _ f1 (fun _=>?_);clear f1;replace hT:=hT.mono bl;replace aq:=aq.mono bl;replace U:=U.mono bl;refine am 2 V (ab (wTo 3 0 [] 56 58 [] [(56,(iI (j:Int))),(57,(sL bk E.length b2)),(58,(iI (k:Int)))] V fun _=>zc (mh.oe ex E (k:Int) (HS.call N) aq M hT M) ?_));rintro _ hg ⟨kz,l5,oH,rfl,rfl,kn,rfl⟩;refine wTo 2 4 [] 60 61 [] [(61,(.bool (decide ((j:Int)<((E.getD ((k:Int)+1).toNat v_).length:Int)))))] V fun _=>ah 1 V (zd 4 5 (fun h9=>?_) fun h9=>?_)
    ·have jo:0<=(((E).getD (((k:Nat):Int)+1).toNat v_).getD j 0)/\(((E).getD (((k:Nat):Int)+1).toNat v_).getD j 0)<c.r:=by(have hm:=(pt.mem _).1 (iJ (l:=((E).getD (((k:Nat):Int)+1).toNat v_)) (q:=j) M);have hh:=iG vF a6 hm.2;omega)
     refine ab (bL 2 0 64 65 [] [(64,(sL bk E.length b2)),(65,(iI (k:Int)))] Hn_ (by kernel_rfl) V fun _=>zc (mh.oe ex E (k:Int) (HS.call N) aq M hT M) ?_);rintro _ hg ⟨k0,l7,oI,rfl,rfl,e1,rfl⟩;obtain⟨k5,f7⟩:=Sv.view (SR.sv e1 N);have ow:=fI (f7 j);refine bL 4 3 67 69 [11] [(11,(iI ((E.getD ((k:Int)+1).toNat v_).getD j 0)))] (Ha_ (Sv.ix (j:=(j:Int)) (SR.sv e1 N)) (Hl_ 5 (ql 3 0 (vI (f7 j)) V V) Hn_)) (by kernel_rfl) V fun _=>ah 2 V ?_
     obtain⟨k6,f8⟩:=Sv.view (OS.sv U N (i:=3) V);have ox:=fI (f8 i);refine wrp 1 70 89 [] [(89,(.bool ((((E.getD ((k:Int)+1).toNat v_).getD j 0) !=((ae ((c.u.getD b v_).v.getD k v_)).getD i 0))&&(!((((c.u.getD b v_).v.getD k v_).i.op==10)&&(((E.getD ((k:Int)+1).toNat v_).getD j 0)==((c.u.getD b v_).v.getD k v_).i.b))))))] (Ha_ (Sv.ix (j:=(i:Int)) (OS.sv U N (i:=3) V)) (Hl_ 4 (ql 3 0 (vI (f8 i)) V V) (be 9 (fun _=>(ql 3 0 (j_ N V) V V)) (jv 15 (fun _ _=>(ql 3 2 (j_ N V) V V)) Hn_)))) V V fun _=>zI 0 2 (fun e6=>?_) fun e6=>?_
     ·have dv:=e6;have b0:eok c b k ((ae ((c.u.getD b v_).v.getD k v_)).getD i 0) (((E).getD (((k:Nat):Int)+1).toNat v_).getD j 0):=⟨dv.1,fun h=>by have h2:=dv.2;simp_all⟩
      have oQ:=b6.len;have oD:=(b6.rng ((ae ((c.u.getD b v_).v.getD k v_)).getD i 0).toNat).1;have oE:=(b6.rng (((E).getD (((k:Nat):Int)+1).toNat v_).getD j 0).toNat).1;refine aL V ?_;obtain⟨k7,et⟩:=Sv.view (OS.sv U N (i:=3) V);have oy:=fI (et i);obtain⟨e8,f9⟩:=Sv.view (OS.sv T N (i:=1) V);have ik:=fL (f9 (((ae ((c.u.getD b v_).v.getD k v_)).getD i 0).toNat));refine eO 15 90 104 [] [(90,(sL a_ g4.length Z)),(94,(iI ((ae ((c.u.getD b v_).v.getD k v_)).getD i 0))),(95,(sL a_ g4.length Z)),(96,(iI ((E.getD ((k:Int)+1).toNat v_).getD j 0))),(103,(sL (cA (e8 (((ae ((c.u.getD b v_).v.getD k v_)).getD i 0).toNat)) 0) (g4.getD (((ae ((c.u.getD b v_).v.getD k v_)).getD i 0).toNat) v_).length (cK (e8 (((ae ((c.u.getD b v_).v.getD k v_)).getD i 0).toNat)) 0))),(104,(iI ((E.getD ((k:Int)+1).toNat v_).getD j 0)))] (Ha_ (Sv.ix (j:=(i:Int)) (OS.sv U N (i:=3) V)) (Hl_ 4 (ql 3 0 (hc0 (vI (et i))) V V) (Ha_ (Sv.ix (j:=(i:Int)) (OS.sv U N (i:=3) V)) (Hl_ 11 (ql 3 0 (hc0 (vI (et i))) V V) (Ha_ (Sv.ix (j:=((ae ((c.u.getD b v_).v.getD k v_)).getD i 0)) (OS.sv T N (i:=1) V)) (Hl_ 13 (ql 22 0 (hc0 (vL (f9 (((ae ((c.u.getD b v_).v.getD k v_)).getD i 0).toNat)))) V V) Hn_)))))) N V V fun _=>ba (W:=[]) (aO V V V) V V V (m6.dz ex (g4.getD (((ae ((c.u.getD b v_).v.getD k v_)).getD i 0).toNat) v_) ((E.getD ((k:Int)+1).toNat v_).getD j 0) (HS.call N.log0) ik M hT M) q_ ?_
      rintro _ hY ⟨hA,hL,oJ,nx,ch,aa,rfl,c5,rfl⟩;refine⟨Wr.did aa.log,fun hO g7=>?_⟩;replace aa:=HS.back N.log0 V aa;replace aa:=HS.lg aa N g7;generalize ({hY with log:=hO}:Heap)=kp at aa⊢;replace hT:=hT.mono ch;replace U:=U.mono ch;replace T:=T.mono ch;obtain⟨fd,go⟩:=Sv.view (OS.sv T aa (i:=1) V);have il:=fL (go (((E.getD ((k:Int)+1).toNat v_).getD j 0).toNat));obtain⟨k8,g5⟩:=Sv.view (OS.sv U aa (i:=3) V);have oz:=fI (g5 i);refine eO 8 106 113 [] [(109,(sL (cA (fd (((E.getD ((k:Int)+1).toNat v_).getD j 0).toNat)) 0) (g4.getD (((E.getD ((k:Int)+1).toNat v_).getD j 0).toNat) v_).length (cK (fd (((E.getD ((k:Int)+1).toNat v_).getD j 0).toNat)) 0))),(113,(iI ((ae ((c.u.getD b v_).v.getD k v_)).getD i 0)))] (Ha_ (Sv.ix (j:=((E.getD ((k:Int)+1).toNat v_).getD j 0)) (OS.sv T aa (i:=1) V)) (Hl_ 19 (ql 22 0 (hc0 (vL (go (((E.getD ((k:Int)+1).toNat v_).getD j 0).toNat)))) V V) (Ha_ (Sv.ix (j:=(i:Int)) (OS.sv U aa (i:=3) V)) (Hl_ 23 (ql 3 0 (hc0 (vI (g5 i))) V V) Hn_)))) aa V V fun _=>ba (W:=[]) (aO V V V) V V V (m6.dz ex (g4.getD (((E.getD ((k:Int)+1).toNat v_).getD j 0).toNat) v_) ((ae ((c.u.getD b v_).v.getD k v_)).getD i 0) (HS.call aa.log0) il M hT M) q_ ?_
      rintro _ h0 ⟨hB,hM,oK,n1,dt,ay,rfl,he,rfl⟩;refine⟨Wr.did ay.log,fun hP g8=>?_⟩;replace ay:=HS.back aa.log0 V ay;replace ay:=HS.lg ay aa g8;generalize ({h0 with log:=hP}:Heap)=kr at ay⊢;replace c5:=c5.mono dt;replace T:=T.mono dt;refine zy (List Int) ((ae ((c.u.getD b v_).v.getD k v_)).getD i 0) (OS.sv T ay.log0 (i:=1) V) (gP (id:= .x (ax.map Prod.fst)) (dm (α:=(List Int)) (j:=((ae ((c.u.getD b v_).v.getD k v_)).getD i 0).toNat) (off:=0) (q:=1) (dB (g4.getD (((ae ((c.u.getD b v_).v.getD k v_)).getD i 0).toNat) v_) ((E.getD ((k:Int)+1).toNat v_).getD j 0)) T ay.log0 V V V V V V V V (bg (x:=v_) M) V (by rintro cs ⟨_,_,rfl,_⟩;exact⟨a0a V,⟨hA,hL,V,c5⟩⟩)) V (by rintro _ _ hr ⟨ci,_,al⟩;exact dC V V (Wr.did al)) (kb V) ?_);rintro _ h3 hr ⟨ci,bz,_⟩ hQ g9;replace bz:=HS.lg bz ay g9;generalize ({h3 with log:=hQ}:Heap)=kx at bz⊢;have kk:=OS.len' ci;refine zy (List Int) ((E.getD ((k:Int)+1).toNat v_).getD j 0) (OS.sv ci bz.log0 (i:=1) V) (gP (id:= .x (hr.map Prod.fst)) (dm (α:=(List Int)) (j:=((E.getD ((k:Int)+1).toNat v_).getD j 0).toNat) (off:=0) (q:=1) (dB (g4.getD (((E.getD ((k:Int)+1).toNat v_).getD j 0).toNat) v_) ((ae ((c.u.getD b v_).v.getD k v_)).getD i 0)) ci bz.log0 V V V V V V V V (bg (x:=v_) M) V (by rintro cs ⟨_,_,rfl,_⟩;exact⟨a0a V,⟨hB,hM,V,he⟩⟩)) V (by rintro _ _ ht ⟨co,_,al⟩;exact dC V V (Wr.did al)) (kb V) ?_);rintro _ h4 ht ⟨co,c7,_⟩ hR ha;replace c7:=HS.lg c7 bz ha;generalize ({h4 with log:=hR}:Heap)=ky at c7⊢;have kl:=OS.len' co;refine bC 2 V (wU 1 [] 62 63 [10] [(10,(iI ((j:Int)+1)))] (vi (n:=(j:Int)+1)) V fun _=>?_);refine g6 _ _ _ ?_ ⟨(g4.set (((ae ((c.u.getD b v_).v.getD k v_)).getD i 0).toNat) (dB (g4.getD (((ae ((c.u.getD b v_).v.getD k v_)).getD i 0).toNat) v_) ((E.getD ((k:Int)+1).toNat v_).getD j 0))).set (((E.getD ((k:Int)+1).toNat v_).getD j 0).toNat) (dB (g4.getD (((E.getD ((k:Int)+1).toNat v_).getD j 0).toNat) v_) ((ae ((c.u.getD b v_).v.getD k v_)).getD i 0)),j+1,a_,Z,ht,_,(fT (fT (bl) ch) dt),c7,(OS.norm co),(agC V (agC (show Value.slice a_ g4.length Z=Value.slice a_ ((g4.set (((ae ((c.u.getD b v_).v.getD k v_)).getD i 0).toNat) (dB (g4.getD (((ae ((c.u.getD b v_).v.getD k v_)).getD i 0).toNat) v_) ((E.getD ((k:Int)+1).toNat v_).getD j 0))).set (((E.getD ((k:Int)+1).toNat v_).getD j 0).toNat) (dB (g4.getD (((E.getD ((k:Int)+1).toNat v_).getD j 0).toNat) v_) ((ae ((c.u.getD b v_).v.getD k v_)).getD i 0))).length Z by rw[OS.len' co]) ⟨V,V,V,V,V,V,V,trivial⟩)),V,(rl_yes vF M b6 b0 jk jo),M⟩;omega
     have dv:=e6;have b0: ¬eok c b k ((ae ((c.u.getD b v_).v.getD k v_)).getD i 0) (((E).getD (((k:Nat):Int)+1).toNat v_).getD j 0):=fun h=>by(have h1:=h.1;have h2:=h.2;simp_all)
     refine wU 1 [] 62 63 [10] [(10,(iI ((j:Int)+1)))] (vi (n:=(j:Int)+1)) V fun _=>?_
     refine g6 _ _ _ ?_ ⟨g4,j+1,a_,Z,ax,_,(bl),N,T,⟨V,V,V,V,V,V,V,V,V,trivial⟩,V,(rl_no M b6 b0),M⟩;omega
    refine wU 1 [] 54 55 [9] [(9,(iI ((i:Int)+1)))] (vi (n:=(i:Int)+1)) V fun _=>?_
    refine hK _ _ _ ?_ ⟨g4,i+1,a_,Z,ax,_,(fT (b4) bl),N,T,⟨V,V,V,V,V,V,V,V,trivial⟩,V,(b6.iff (e2s_iff pt (show i<(ae ((c.u.getD b v_).v.getD k v_)).length by omega) M)),M⟩;omega
   refine wU 1 [] 37 38 [6] [(6,(iI ((k:Int)+1)))] (vi (n:=(k:Int)+1)) V fun _=>?_
   refine hJ _ _ _ ?_ ⟨g3,k+1,a1,a3,a5,_,(fT (fT (b3) cg) b4),(HS.sub f3 (a03 _ _)),dk,⟨V,V,V,V,V,trivial⟩,V,(hp.iff (e1s_iff (show(ae ((c.u.getD b v_).v.getD k v_)).length<=i by omega))),M⟩;omega
  refine wU 1 [] 23 24 [4] [(4,(iI ((b:Int)+1)))] (vi (n:=(b:Int)+1)) V fun _=>?_
  refine hI _ _ _ ?_ ⟨g2,b+1,aA,a2,a4,_,(fT (fT (b9) cc) b3),ar,a8,⟨V,V,V,trivial⟩,V,(hn.iff (e0_iff (show(c.u.getD b v_).v.length=k by omega))),M⟩;omega
 refine wT 1 [] 2 2 [117] [(2,(sL av g1.length aw))] V fun _=>?_
 obtain⟨n2,hD,hH,hE,l4⟩:=OS.frz a7 b5 (i:=1) V;refine aj ⟨.inr V,_,V,av,aw,g1,_,(fT (fT (e0) b9) hD),(HS.forget hH),V,hE,(fun _=>rl_fin M hb hl),(fun h=>absurd (hv.symm.trans h) e_)⟩
theorem ruses_c{bk:Option Addr}{bz:Nat}(c:VFnT)(hs:HS (.of H []) F H [] R)(k0:in64 c.m)(k3:in64 c.r)(E:SR F (sL bk c.u.length bz) c.u)(hT:TB 37 tabC F)(a6: ∀j,(c.u.getD j v_).v.length<=1073741822):kKt ex 56 [(aG [(iI c.m),(iI c.r),(sL bk c.u.length bz)])] H fun v H'=> ∃(ao:Option Addr) (ko:Nat) (o:List Int) (F':Fz),Fz.le F F'/\HS (.of H []) F' H' [] R/\v=sL ao o.length ko/\SR F' (sL ao o.length ko) o/\(ca c=true->CntF c (usedC c) o)/\(ca c=false->o=[]):=by
 refine aC Tryz.func56 V V (am 1 V (ab (bd (aR hs V V) V V ?_)));rintro _ H2 _ ⟨b1,rfl,e0,_⟩;refine za (sL none 0 0) (ah 3 V (ab (aY 1 0 10 10 [] [(10,(aG [(iI c.m),(iI c.r),(sL bk c.u.length bz)]))] (Hr_ 0 0 Hn_) e0 V V fun _=>zc (m3.gI ex c (HS.call e0) M M E hT (fun j=>a0e (a6 j) M)) ?_)));rintro _ H4 ⟨r4,F4,c8,b6,rfl,rfl⟩;replace b6:=HS.back e0 V b6;replace hT:=hT.mono c8;replace E:=E.mono c8;refine bL 1 2 12 12 [] [(12,(.bool (!(ca c))))] Hn_ (by kernel_rfl) V fun _=>ah 1 V (zI 1 2 (fun c6=>?_) fun c6=>?_)
 ·have hv:=c6;refine wT 1 [] 2 2 [] [(2,(sL none 0 0))] V fun _=>aj ⟨.inr V,_,V,none,0,([]:List Int),_,(c8),(HS.forget b6),V,(SR.nil:SR F4 (sL none 0 0) ([]:List Int)),(fun h=>absurd (h.symm.trans hv) e_),(fun _=>rfl)⟩
 have hv:=c6;have vF:=e7 hv;have oY:=vF.nb;have oZ:=vF.r;have g1: ∀j,(bB c j).v.length<=1073741824:=fun j=>a0e (a6 j) M
 refine ab (aY 2 0 13 14 [] [(14,(iI c.r))] (Hr_ 1 0 Hn_) b6 V V fun _=>bd (cQ (0:Int) b6 V V V V V V V V V ⟨V,by decide⟩ M M) V V ?_);rintro _ l5 p9 ⟨a9,k9,rfl,hH,g8,_⟩;let dk:Fp:=(fP b1 [(iI c.m),(iI c.r),(sL bk c.u.length bz)])
 refine za (sL a9 (List.replicate c.r.toNat (0:Int)).length k9) (ah 3 V (wT 2 [] 1 0 [4] [(4,(iI 0))] V fun _=>ak (fun(mm:Nat) f H'=> ∃(o1:List Int) (b:Nat) (aa:Option Addr) (an:Nat) (a5:Fp) (F':Fz),Fz.le F4 F'/\HS (Base.of H []) F' H' [dk,a5] R/\OS F' (sL aa o1.length an) o1 a5/\aB f [(1,(pT b1 0)),(3,(sL aa o1.length an)),(4,(iI (b:Int)))]/\mm=c.u.length-b/\(CntF c (UsP c b 0 []) o1)/\(b<=c.u.length)) _ ⟨List.replicate c.r.toNat (0:Int),0,a9,k9,p9,_,fR,g8,hH,⟨V,V,V,trivial⟩,V,(km),M⟩ ?_));rintro k7 ne l7 ⟨o1,b,aa,an,a5,hr,b2,co,b7,d2,rfl,c1,hb⟩ hg;refine au _ d2 (fun _=>?_);clear d2;replace hT:=hT.mono b2;replace E:=E.mono b2;refine am 2 V (aU 1 16 20 [] [(20,(.bool (decide ((b:Int)<(c.u.length:Int)))))] (Hr_ 2 0 Hn_) co V V fun _=>zd 5 5 (fun hD=>?_) fun hD=>?_)
 ·have a0:b<c.u.length:=M
  have oW:=a6 b;have oX:(d6 (c.u.getD b v_)).length<=1:=by unfold d6;split<;>simp
  refine wT 2 [] 1 0 [5] [(5,(iI 0))] V fun _=>ak (fun(mm:Nat) f H'=> ∃(o2:List Int) (k:Nat) (ar:Option Addr) (ax:Nat) (ay:Fp) (F':Fz),Fz.le hr F'/\HS (Base.of H []) F' H' [dk,ay] R/\OS F' (sL ar o2.length ax) o2 ay/\aB f [(1,(pT b1 0)),(3,(sL ar o2.length ax)),(4,(iI (b:Int))),(5,(iI (k:Int)))]/\mm=(c.u.getD b v_).v.length-k/\(CntF c (UsP c b k []) o2)/\(k<=(c.u.getD b v_).v.length)) _ ⟨o1,0,aa,an,a5,_,fR,co,b7,⟨V,V,V,V,trivial⟩,V,M,M⟩ ?_
  rintro k8 nm l8 ⟨o2,k,ar,ax,ay,l1,b3,N,ag,ef,rfl,c2,hk⟩ hh;refine au _ ef (fun _=>?_);clear ef;replace hT:=hT.mono b3;replace E:=E.mono b3;refine am 2 V ?_;obtain⟨kl,e2⟩:=Sv.view (SR.sv E N);obtain⟨hR,hS,hV,hW,jw⟩:=BlkT.fx (e2 b);refine aU 1 23 31 [] [(31,(.bool (decide ((k:Int)<((c.u.getD b v_).v.length:Int)))))] (Hr_ 2 0 (Ha_ (Sv.ix (j:=(b:Int)) (SR.sv E N)) (Hl_ 6 (ql 80 0 (BlkT.vw (e2 b)) V V) Hn_))) N V V fun _=>zd 4 5 (fun hE=>?_) fun hE=>?_
  ·have hd:k<(c.u.getD b v_).v.length:=M
   have hy:(∀x∈aF ((c.u.getD b v_).v.getD k v_),0<=x/\x<c.r)/\(∀x∈ae ((c.u.getD b v_).v.getD k v_),0<=x/\x<c.r)/\((c.u.getD b v_).v.getD k v_).args.length<=6:=bF (vF.v b a0 k hd);have o0:=eF (v:=((c.u.getD b v_).v.getD k v_));have o5:=dI (v:=((c.u.getD b v_).v.getD k v_));have oV:(aF ((c.u.getD b v_).v.getD k v_)++ae ((c.u.getD b v_).v.getD k v_)).length=(aF ((c.u.getD b v_).v.getD k v_)).length+(ae ((c.u.getD b v_).v.getD k v_)).length:=a01;have ou: ∀x∈(aF ((c.u.getD b v_).v.getD k v_)++ae ((c.u.getD b v_).v.getD k v_)),0<=x/\x<c.r:=fun x hx=>(a07.1 hx).elim (hy.1 x) (hy.2.1 x)
   refine aL V ?_;obtain⟨kn,e3⟩:=Sv.view (SR.sv E N);obtain⟨hX,hY,h0,h1,c9⟩:=BlkT.fx (e3 b);obtain⟨ds,e4⟩:=Sv.view (SR.sv c9 N);obtain⟨h2,h3,h4,h5,h6,f6⟩:=VInT.fx (e4 k);refine eO 9 34 42 [] [(42,(aG [(iI ((c.u.getD b v_).v.getD k v_).i.op),(iI ((c.u.getD b v_).v.getD k v_).i.a),(iI ((c.u.getD b v_).v.getD k v_).i.b),(iI ((c.u.getD b v_).v.getD k v_).i.c),(iI ((c.u.getD b v_).v.getD k v_).i.n),(sL (cA (ds k) 5) ((c.u.getD b v_).v.getD k v_).args.length (cK (ds k) 5))]))] (Hr_ 1 0 (Ha_ (Sv.ix (j:=(b:Int)) (SR.sv E N)) (Hl_ 5 (ql 80 0 (hc0 (BlkT.vw (e3 b))) V V) (Ha_ (Sv.ix (j:=(k:Int)) (SR.sv c9 N)) (Hl_ 8 (qn 88 0 6 (hc0 (VInT.vw (e4 k))) V V V V) Hn_))))) N V V fun _=>ba (W:=[]) (aO V V V) V V V (ma.nt ex ((c.u.getD b v_).v.getD k v_) (HS.call N.log0) M M M M M f6 hT M) (kb V) ?_
   rintro _ hz ⟨ki,k5,oc,f9,b4,a2,rfl,f4,rfl⟩;refine⟨Wr.did a2.log,fun hm f2=>?_⟩;replace a2:=HS.back N.log0 V a2;replace a2:=HS.lg a2 N f2;generalize ({hz with log:=hm}:Heap)=ka at a2⊢;replace hT:=hT.mono b4;replace E:=E.mono b4;have e1:=HS.snoc a2;refine zad 2 (OS.nil:OS f9 (sL none 0 0) ([]:List Int) []) e1 (SR.sv f4 e1) V V V M (kb V) fun hB hI hK kc bl ap=>?_
   have bl:OS f9 (sL hB (aF ((c.u.getD b v_).v.getD k v_)).length hI) (aF ((c.u.getD b v_).v.getD k v_)) hK:=bl;refine zp 2 (bE (v:=(sL bk c.u.length bz)) (id:= .l b1) (gB (i:=2) V V (HS.hc ap.log0 (i:=0) V) V V) V V (jj V) (⟨.inl V,.inr a0k,.inr a0k,q_⟩) ?_);obtain⟨kp,e5⟩:=Sv.view (SR.sv E ap);obtain⟨h7,h8,h9,ib,dd⟩:=BlkT.fx (e5 b);obtain⟨dt,e6⟩:=Sv.view (SR.sv dd ap);obtain⟨ih,ik,il,it,iz,f7⟩:=VInT.fx (e6 k);refine eO 7 47 53 [] [(53,(aG [(iI ((c.u.getD b v_).v.getD k v_).i.op),(iI ((c.u.getD b v_).v.getD k v_).i.a),(iI ((c.u.getD b v_).v.getD k v_).i.b),(iI ((c.u.getD b v_).v.getD k v_).i.c),(iI ((c.u.getD b v_).v.getD k v_).i.n),(sL (cA (dt k) 5) ((c.u.getD b v_).v.getD k v_).args.length (cK (dt k) 5))]))] (Ha_ (Sv.ix (j:=(b:Int)) (SR.sv E ap)) (Hl_ 16 (ql 80 0 (hc0 (BlkT.vw (e5 b))) V V) (Ha_ (Sv.ix (j:=(k:Int)) (SR.sv dd ap)) (Hl_ 19 (qn 88 0 6 (hc0 (VInT.vw (e6 k))) V V V V) Hn_)))) ap V V fun _=>ba (W:=[]) (aO V V V) V V V (ma.kN ex ((c.u.getD b v_).v.getD k v_) (HS.call ap.log0) M M M M M f7 hT) (kb V) ?_
   rintro _ hA ⟨kk,k6,oh,hL,ht,b9,aq,rfl,f5,rfl⟩;refine⟨Wr.did aq.log,fun hn f3=>?_⟩;replace aq:=HS.back ap.log0 V aq;replace aq:=HS.lg aq ap f3;generalize ({hA with log:=hn}:Heap)=kd at aq⊢;replace bl:=bl.mono b9;replace ag:=(ag.mono b4).mono b9;refine zad 2 bl aq (OS.sv f5 aq (i:=3) V) V V V M (kb V) fun go g4 hM kg b5 g9=>fa (sL go ((aF ((c.u.getD b v_).v.getD k v_))++(ae ((c.u.getD b v_).v.getD k v_))).length g4) V V V (bC 2 V (wT 2 [] 1 0 [7] [(7,(iI 0))] V fun _=>ak (fun(mm:Nat) f H'=> ∃(o3:List Int) (p:Nat) (T:Option Addr) (a_:Nat) (a7:Fp) (F':Fz),Fz.le ht F'/\HS (Base.of H []) F' H' [dk,a7,hM,hL] R/\OS F' (sL T o3.length a_) o3 a7/\aB f [(1,(pT b1 0)),(3,(sL T o3.length a_)),(4,(iI (b:Int))),(5,(iI (k:Int))),(6,(sL go ((aF ((c.u.getD b v_).v.getD k v_))++(ae ((c.u.getD b v_).v.getD k v_))).length g4)),(7,(iI (p:Int)))]/\mm=(aF ((c.u.getD b v_).v.getD k v_)++ae ((c.u.getD b v_).v.getD k v_)).length-p/\(CntF c (UsP c b k ((aF ((c.u.getD b v_).v.getD k v_)++ae ((c.u.getD b v_).v.getD k v_)).take p)) o3)/\(p<=(aF ((c.u.getD b v_).v.getD k v_)++ae ((c.u.getD b v_).v.getD k v_)).length)) _ ⟨o2,0,ar,ax,ay,_,fR,g9,ag,⟨V,V,V,V,V,V,trivial⟩,V,(c2),M⟩ ?_))
   rintro lf nx l9 ⟨o3,p,T,a_,a7,l2,cc,a3,av,et,rfl,c3,hp⟩ hj;refine au _ et (fun _=>?_);clear et;replace b5:=b5.mono cc;refine am 2 V (wT 1 [] 56 59 [] [(59,(.bool (decide ((p:Int)<(((aF ((c.u.getD b v_).v.getD k v_))++(ae ((c.u.getD b v_).v.getD k v_))).length:Int)))))] V fun _=>zd 3 5 (fun hF=>?_) fun hF=>?_)
   ·have ho:p<(aF ((c.u.getD b v_).v.getD k v_)++ae ((c.u.getD b v_).v.getD k v_)).length:=M
    have g2:=dG ou ho;have oa:=cnt_rng c3 g2 (us_len vF g1 a0 p_);refine ab ?_;obtain⟨kr,e8⟩:=Sv.view (OS.sv b5 a3 (i:=2) V);have n2:=fI (e8 p);obtain⟨kx,fd⟩:=Sv.view (OS.sv av a3 (i:=1) V);have n3:=fI (fd ((((aF ((c.u.getD b v_).v.getD k v_))++(ae ((c.u.getD b v_).v.getD k v_))).getD p 0).toNat));refine bL 9 0 62 70 [] [(69,(iI ((o3.getD ((((aF ((c.u.getD b v_).v.getD k v_))++(ae ((c.u.getD b v_).v.getD k v_))).getD p 0).toNat) 0)+1))),(70,(.pointer (some ⟨sB (sL T o3.length a_),sO (sL T o3.length a_)+((((aF ((c.u.getD b v_).v.getD k v_))++(ae ((c.u.getD b v_).v.getD k v_))).getD p 0).toNat) *Rp.sz Int,none⟩)))] (Ha_ (Sv.ix (j:=(p:Int)) (OS.sv b5 a3 (i:=2) V)) (Hl_ 4 (ql 3 0 (vI (e8 p)) V V) (Ha_ (Sv.ix (j:=(((aF ((c.u.getD b v_).v.getD k v_))++(ae ((c.u.getD b v_).v.getD k v_))).getD p 0)) (OS.sv av a3 (i:=1) V)) (Hl_ 6 (ql 3 0 (vI (fd ((((aF ((c.u.getD b v_).v.getD k v_))++(ae ((c.u.getD b v_).v.getD k v_))).getD p 0).toNat))) V V) (Ha_ (vi (n:=(o3.getD ((((aF ((c.u.getD b v_).v.getD k v_))++(ae ((c.u.getD b v_).v.getD k v_))).getD p 0).toNat) 0)+1)) (Ha_ (Sv.ix (j:=(((aF ((c.u.getD b v_).v.getD k v_))++(ae ((c.u.getD b v_).v.getD k v_))).getD p 0)) (OS.sv av a3 (i:=1) V)) Hn_)))))) (by kernel_rfl) V fun _=>gf (dm (α:=Int) (j:=(((aF ((c.u.getD b v_).v.getD k v_))++(ae ((c.u.getD b v_).v.getD k v_))).getD p 0).toNat) (off:=0) (q:=1) ((o3.getD ((((aF ((c.u.getD b v_).v.getD k v_))++(ae ((c.u.getD b v_).v.getD k v_))).getD p 0).toNat) 0)+1) av a3 V V V V V V V V (bg (x:=(0:Int)) M) V (by rintro cs ⟨rfl,_⟩;exact⟨a0a V,V,by omega⟩)) V ?_
    rintro _ mk hO ⟨ch,ha,_⟩;have jb:=OS.len' ch;refine ah 2 V (wU 1 [] 60 61 [7] [(7,(iI ((p:Int)+1)))] (vi (n:=(p:Int)+1)) V fun _=>?_);refine hj _ _ _ ?_ ⟨o3.set ((((aF ((c.u.getD b v_).v.getD k v_))++(ae ((c.u.getD b v_).v.getD k v_))).getD p 0).toNat) ((o3.getD ((((aF ((c.u.getD b v_).v.getD k v_))++(ae ((c.u.getD b v_).v.getD k v_))).getD p 0).toNat) 0)+1),p+1,T,a_,hO,_,(cc),ha,(OS.norm ch),(agC V (agC (show Value.slice T o3.length a_=Value.slice T (o3.set ((((aF ((c.u.getD b v_).v.getD k v_))++(ae ((c.u.getD b v_).v.getD k v_))).getD p 0).toNat) ((o3.getD ((((aF ((c.u.getD b v_).v.getD k v_))++(ae ((c.u.getD b v_).v.getD k v_))).getD p 0).toNat) 0)+1)).length a_ by rw[OS.len' ch]) ⟨V,V,V,V,trivial⟩)),V,(by rw[aX (d:=0) ho];exact cnt_step c3 g2),M⟩;omega
   refine wU 1 [] 32 33 [5] [(5,(iI ((k:Int)+1)))] (vi (n:=(k:Int)+1)) V fun _=>?_
   refine hh _ _ _ ?_ ⟨o3,k+1,T,a_,a7,_,(fT (fT (fT (b3) b4) b9) cc),(HS.sub a3 (a03 _ _)),av,⟨V,V,V,V,trivial⟩,V,(by rw[a0i (show(aF ((c.u.getD b v_).v.getD k v_)++ae ((c.u.getD b v_).v.getD k v_)).length<=p by omega)]at c3;exact us_instr hd▸c3),M⟩;omega
  refine ab ?_;obtain⟨dv,fi⟩:=Sv.view (SR.sv E N);obtain⟨i1,i2,i3,i4,f8⟩:=BlkT.fx (fi b);refine aY 5 0 71 75 [] [(75,(aG [(sL (cA (dv b) 0) (c.u.getD b v_).v.length (cK (dv b) 0)),(iI (c.u.getD b v_).f),(iI (c.u.getD b v_).r),(iI (c.u.getD b v_).t),(iI (c.u.getD b v_).e)]))] (Hr_ 1 0 (Ha_ (Sv.ix (j:=(b:Int)) (SR.sv E N)) (Hl_ 4 (qn 82 0 5 (BlkT.vw (fi b)) V V V V) Hn_))) N V V fun _=>zc (ma.rend_c ex (c.u.getD b v_) (HS.call N) f8 M M M M hT) ?_
  rintro _ mx ⟨dn,f1,ol,hP,hw,d1,c5,rfl,bb,rfl⟩;replace c5:=HS.back N V c5;replace ag:=ag.mono d1;refine za (sL dn (d6 (c.u.getD b v_)).length f1) (ah 2 V (wT 2 [] 1 0 [9] [(9,(iI 0))] V fun _=>ak (fun(mm:Nat) f H'=> ∃(o4:List Int) (q:Nat) (U:Option Addr) (Z:Nat) (a8:Fp) (F':Fz),Fz.le hw F'/\HS (Base.of H []) F' H' [dk,a8,hP] R/\OS F' (sL U o4.length Z) o4 a8/\aB f [(1,(pT b1 0)),(3,(sL U o4.length Z)),(4,(iI (b:Int))),(8,(sL dn (d6 (c.u.getD b v_)).length f1)),(9,(iI (q:Int)))]/\mm=(d6 (c.u.getD b v_)).length-q/\(CntF c (UsP c b (c.u.getD b v_).v.length ((d6 (c.u.getD b v_)).take q)) o4)/\(q<=(d6 (c.u.getD b v_)).length)) _ ⟨o2,0,ar,ax,ay,_,fR,c5,ag,⟨V,V,V,V,V,trivial⟩,V,(by rw[←(show k=(c.u.getD b v_).v.length by omega)];exact c2),M⟩ ?_));rintro lr n1 mI ⟨o4,q,U,Z,a8,l3,cg,a4,aw,ez,rfl,c4,hq⟩ hl;refine au _ ez (fun _=>?_);clear ez;replace bb:=bb.mono cg;refine am 2 V (wT 1 [] 77 80 [] [(80,(.bool (decide ((q:Int)<((d6 (c.u.getD b v_)).length:Int)))))] V fun _=>zd 3 5 (fun hG=>?_) fun hG=>?_)
  ·have hu:q<(d6 (c.u.getD b v_)).length:=M
   have g3:0<=(d6 (c.u.getD b v_)).getD q 0/\(d6 (c.u.getD b v_)).getD q 0<c.r:=dG (end_rng vF a0) hu;have ob:=cnt_rng c4 g3 (us_len vF g1 a0 p_);refine ab ?_;obtain⟨ky,fj⟩:=Sv.view (OS.sv bb a4 (i:=2) V);have n4:=fI (fj q);obtain⟨kz,f0⟩:=Sv.view (OS.sv aw a4 (i:=1) V);have n6:=fI (f0 ((d6 (c.u.getD b v_)).getD q 0).toNat);refine bL 9 0 83 91 [] [(90,(iI ((o4.getD ((d6 (c.u.getD b v_)).getD q 0).toNat 0)+1))),(91,(.pointer (some ⟨sB (sL U o4.length Z),sO (sL U o4.length Z)+((d6 (c.u.getD b v_)).getD q 0).toNat *Rp.sz Int,none⟩)))] (Ha_ (Sv.ix (j:=(q:Int)) (OS.sv bb a4 (i:=2) V)) (Hl_ 4 (ql 3 0 (vI (fj q)) V V) (Ha_ (Sv.ix (j:=((d6 (c.u.getD b v_)).getD q 0)) (OS.sv aw a4 (i:=1) V)) (Hl_ 6 (ql 3 0 (vI (f0 ((d6 (c.u.getD b v_)).getD q 0).toNat)) V V) (Ha_ (vi (n:=(o4.getD ((d6 (c.u.getD b v_)).getD q 0).toNat 0)+1)) (Ha_ (Sv.ix (j:=((d6 (c.u.getD b v_)).getD q 0)) (OS.sv aw a4 (i:=1) V)) Hn_)))))) (by kernel_rfl) V fun _=>gf (dm (α:=Int) (j:=((d6 (c.u.getD b v_)).getD q 0).toNat) (off:=0) (q:=1) ((o4.getD ((d6 (c.u.getD b v_)).getD q 0).toNat 0)+1) aw a4 V V V V V V V V (bg (x:=(0:Int)) M) V (by rintro cs ⟨rfl,_⟩;exact⟨a0a V,V,by omega⟩)) V ?_
   rintro _ m0 hQ ⟨ci,he,_⟩;have jq:=OS.len' ci;refine ah 2 V (wU 1 [] 81 82 [9] [(9,(iI ((q:Int)+1)))] (vi (n:=(q:Int)+1)) V fun _=>?_);refine hl _ _ _ ?_ ⟨o4.set ((d6 (c.u.getD b v_)).getD q 0).toNat ((o4.getD ((d6 (c.u.getD b v_)).getD q 0).toNat 0)+1),q+1,U,Z,hQ,_,(cg),he,(OS.norm ci),(agC V (agC (show Value.slice U o4.length Z=Value.slice U (o4.set ((d6 (c.u.getD b v_)).getD q 0).toNat ((o4.getD ((d6 (c.u.getD b v_)).getD q 0).toNat 0)+1)).length Z by rw[OS.len' ci]) ⟨V,V,V,trivial⟩)),V,(by rw[aX (d:=0) hu];exact cnt_step c4 g3),M⟩;omega
  refine wU 1 [] 21 22 [4] [(4,(iI ((b:Int)+1)))] (vi (n:=(b:Int)+1)) V fun _=>?_
  refine hg _ _ _ ?_ ⟨o4,b+1,U,Z,a8,_,(fT (fT (fT (b2) b3) d1) cg),(HS.sub a4 (a03 _ _)),aw,⟨V,V,V,trivial⟩,V,(by rw[a0i (show(d6 (c.u.getD b v_)).length<=q by omega)]at c4;exact us_block a0▸c4),M⟩;omega
 refine wT 1 [] 2 2 [92] [(2,(sL aa o1.length an))] V fun _=>?_
 obtain⟨l4,g6,hf,g7,k4⟩:=OS.frz b7 co (i:=1) V;refine aj ⟨.inr V,_,V,aa,an,o1,_,(fT (fT (c8) b2) g6),(HS.forget hf),V,g7,(fun _=>us_all (c:=c) (k:=b) M▸c1),(fun h=>absurd (hv.symm.trans h) e_)⟩
end ni
open ni
namespace nv
variable (ex:FuncId) {F:Fz} {H:Heap} {R:List Fp}
structure LocT where
 inS:Bool
 x:Int
 deriving Inhabited,DecidableEq
instance :Rp LocT where
 sz:=2
 rep F cs x:=cs=[.bool x.inS,iI x.x]/\in64 x.x
 len:=by rintro F cs x ⟨rfl,_⟩;rfl
 one:=by rintro F cs x ⟨rfl,_⟩;rfl
 mono:=by intro F F' cs x _ h;exact h
theorem LocT.vw{F:Fz}{get:Nat->Option AObj}{v:Value}{cf:Nat->List Value}{j:Nat}{l:List LocT}(h:VW F get v l cf j)(T:j<l.length:=by first|(dsimp only;omega)|omega):HC get (sB v) (sO v+j *Rp.sz LocT) [.bool (l.getD j v_).inS,iI (l.getD j v_).x]:=by obtain⟨⟨N,_⟩,E⟩:=h.1 v_ T;rw[show cf j=_ from N]at E;exact E
theorem LocT.fx{F:Fz}{get:Nat->Option AObj}{v:Value}{cf:Nat->List Value}{j:Nat}{l:List LocT}(h:VW F get v l cf j):in64 (l.getD j v_).x:=by
 rcases a0g j l.length with hj|hj
 ·obtain⟨⟨N,E⟩,_⟩:=h.1 v_ hj;exact E
 rw[cb hj];decide
structure SpiT where
 r:Int
 why:Int
 blk:Int
 x:Int
 oth:(List Int)
 deriving Inhabited,DecidableEq
instance :Rp SpiT where
 sz:=5
 rep F cs x:= ∃a4 k4,cs=[iI x.r,iI x.why,iI x.blk,iI x.x,sL a4 x.oth.length k4]/\in64 x.r/\in64 x.why/\in64 x.blk/\in64 x.x/\SR F (sL a4 x.oth.length k4) x.oth
 len:=by rintro F cs x ⟨a4,k4,rfl,_⟩;rfl
 one:=by rintro F cs x ⟨a4,k4,rfl,_⟩;rfl
 mono:=by rintro F F' cs x hF ⟨a4,k4,rfl,h0,h1,h2,h3,h4⟩;exact⟨a4,k4,V,h0,h1,h2,h3,h4.mono hF⟩
structure AllT where
 l:(List LocT)
 p:(List SpiT)
 k:Int
 deriving Inhabited,DecidableEq
instance :Rp AllT where
 sz:=3
 rep F cs x:= ∃a0 k0 a1 k1,cs=[sL a0 x.l.length k0,sL a1 x.p.length k1,iI x.k]/\in64 x.k/\SR F (sL a0 x.l.length k0) x.l/\SR F (sL a1 x.p.length k1) x.p
 len:=by rintro F cs x ⟨a0,k0,a1,k1,rfl,_⟩;rfl
 one:=by rintro F cs x ⟨a0,k0,a1,k1,rfl,_⟩;rfl
 mono:=by rintro F F' cs x hF ⟨a0,k0,a1,k1,rfl,h0,h1,h2⟩;exact⟨a0,k0,a1,k1,V,h0,h1.mono hF,h2.mono hF⟩
theorem AllT.vw{F:Fz}{get:Nat->Option AObj}{v:Value}{cf:Nat->List Value}{j:Nat}{l:List AllT}(h:VW F get v l cf j)(Z:j<l.length:=by first|(dsimp only;omega)|omega):HC get (sB v) (sO v+j *Rp.sz AllT) [sL (cA (cf j) 0) (l.getD j v_).l.length (cK (cf j) 0),sL (cA (cf j) 1) (l.getD j v_).p.length (cK (cf j) 1),iI (l.getD j v_).k]:=by obtain⟨⟨a0,U,T,k1,N,_⟩,E⟩:=h.1 v_ Z;rw[show cf j=_ from N]at E⊢;exact E
theorem AllT.fx{F:Fz}{get:Nat->Option AObj}{v:Value}{cf:Nat->List Value}{j:Nat}{l:List AllT}(h:VW F get v l cf j):in64 (l.getD j v_).k/\SR F (sL (cA (cf j) 0) (l.getD j v_).l.length (cK (cf j) 0)) (l.getD j v_).l/\SR F (sL (cA (cf j) 1) (l.getD j v_).p.length (cK (cf j) 1)) (l.getD j v_).p:=by
 rcases a0g j l.length with hj|hj
 ·obtain⟨⟨a0,Z,a_,k1,E,N,T,U⟩,_⟩:=h.1 v_ hj;rw[show cf j=_ from E];exact⟨N,T,U⟩
 rw[cb hj,h.2 hj];exact⟨by decide,SR.nil,SR.nil⟩
theorem kZ{c:VFnT}{l:List Int}{S:Nat->Prop}(h:Lst l S)(hs: ∀r,S r->(r:Int)<c.r): ∀x∈l,0<=x/\x<c.r:=fun x T=>by obtain⟨N,E⟩:=(h.mem x).1 T;have:=hs _ E;omega
theorem lst_some{l:List Int}{S:Nat->Prop}(h:Lst l S)(E:0<l.length): ∃r,S r:=by
 cases l with
 |nil=>exact absurd E (a23 _)
 |cons x l=>exact⟨_,((h.mem x).1 (a0n ..)).2⟩
theorem inte_lt{c:VFnT}(v:VF c){a x:Nat}(h:j9 c a x):(a:Int)<c.r/\(x:Int)<c.r:=by obtain⟨b,i,E,N,T,U,_⟩:=h;exact⟨((bF (v.v b E i N)).2.1 _ T).2,iG v E U⟩
theorem sy_lt2{c:VFnT}(v:VF c){r y:Nat}(h:Sy (j9 c) r y):(y:Int)<c.r:=h.elim (fun h=>(inte_lt v h).2) fun h=>(inte_lt v h).1
theorem in_some{c:VFnT}{x:List (List Int)}(h:Lst (x.getD 0 v_) (LIn c 0))(E:0<c.u.length)(N:0<(x.getD 0 v_).length): ∃r,ptS c 0 0 r:=by obtain⟨r,T⟩:=lst_some h N;exact⟨r,(pt_in E _).2 T⟩
theorem in_none{c:VFnT}{x:List (List Int)}(h:Lst (x.getD 0 v_) (LIn c 0))(N:0<c.u.length)(U: ¬0<(x.getD 0 v_).length): ∀r,¬ptS c 0 0 r:=fun r T=>by have:=(pt_in N _).1 T;have E:=List.length_pos_of_mem ((h.mem (r:Int)).2 ⟨by omega,by rw[show((r:Nat):Int).toNat=r by omega];exact this⟩);omega
def okL(c:VFnT)(a:AllT)(x:LocT):Prop:=(x.inS=true->c.m<=x.x/\x.x<a.k)/\(x.inS=false->0<=x.x/\x.x<5)
def iY(a:AllT)(r:Nat):LocT:=a.l.getD r v_
structure SndP(c:VFnT)(a:AllT):Prop where
 val:ca c=true
 len:(a.l.length:Int)=c.r
 lo:c.m<=a.k
 hi:a.k<=3000
 z: ∀r,¬ptS c 0 0 r
 loc: ∀q,q<a.l.length->okL c a (iY a q)
 dis: ∀q y,q<a.l.length->Sy (j9 c) q y->iY a q≠iY a y
 acr: ∀r,acS c r->(iY a r).inS=true
def bP(p:Prop):Bool:= @decide p (Classical.propDecidable p)
theorem bP_y{p:Prop}(h:p):true=bP p:=(@decide_eq_true p (Classical.propDecidable p) h).symm
theorem bP_n{p:Prop}(h: ¬p):false=bP p:=(@decide_eq_false p (Classical.propDecidable p) h).symm
theorem bP_iff{p:Prop}:bP p=true↔p:= @decide_eq_true_iff p (Classical.propDecidable p)
theorem gj{P:Nat->Prop}{k:Nat}(h: ∀q,q<k->P q)(N:P k): ∀q,q<k+1->P q:=fun q T=>by
 rcases Nat.lt_or_eq_of_le (Nat.le_of_lt_succ T) with E|rfl
 ·exact h q E
 exact N
theorem snd_row{c:VFnT}{a:AllT}{E:List Int}{r n:Nat}(N:Lst E (Sy (j9 c) r))(hn:E.length<=n)(h: ∀p,p<n->iY a r≠iY a (E.getD p 0).toNat): ∀y,Sy (j9 c) r y->iY a r≠iY a y:=fun y Z=>by have T:=(N.mem (y:Int)).2 ⟨by omega,by rw[show((y:Nat):Int).toNat=y by omega];exact Z⟩;obtain⟨p,U,e⟩:=List.getElem_of_mem T;have:=h p M;rw[a02,a06 U,a0I,e]at this;rwa [show((y:Nat):Int).toNat=y by omega]at this
theorem snd_acr{c:VFnT}{a:AllT}{l:List Int}{n:Nat}(E:Lst l (acS c))(Z:l.length<=n)(h: ∀p,p<n->(iY a (l.getD p 0).toNat).inS=true): ∀r,acS c r->(iY a r).inS=true:=fun y U=>by have N:=(E.mem (y:Int)).2 ⟨by omega,by rw[show((y:Nat):Int).toNat=y by omega];exact U⟩;obtain⟨p,T,e⟩:=List.getElem_of_mem N;have:=h p M;rw[a02,a06 T,a0I,e]at this;rwa [show((y:Nat):Int).toNat=y by omega]at this
theorem snd_no0{c:VFnT}{a:AllT}(h:((((!(ca c))||((a.l.length:Int) !=c.r))||(decide (a.k<c.m)))||(decide ((3000:Int)<a.k)))=true): ¬SndP c a:=fun s=>by have E:=s.val;have N:=s.len;have T:=s.lo;have U:=s.hi;rw[E,N,decide_eq_false M,decide_eq_false M]at h;simp at h
theorem snd_yes0{c:VFnT}{a:AllT}(h:((((!(ca c))||((a.l.length:Int) !=c.r))||(decide (a.k<c.m)))||(decide ((3000:Int)<a.k)))=false):ca c=true/\(a.l.length:Int)=c.r/\c.m<=a.k/\a.k<=3000:=by simp only[a1l,decide_eq_false_iff_not,a28,bne_eq_false_iff_eq]at h;exact⟨h.1.1.1,h.1.1.2,by omega,by omega⟩
theorem ok_no{c:VFnT}{a:AllT}{x:LocT}{lo hi:Int}(N:(x.inS=true/\lo=c.m/\hi=a.k)\/(x.inS=false/\lo=0/\hi=5))(E:((decide (x.x<lo))||(decide (hi<=x.x)))=true): ¬okL c a x:=fun h=>by
 rw[a0A,decide_eq_true_eq,decide_eq_true_eq]at E;rcases N with⟨e,rfl,rfl⟩|⟨e,rfl,rfl⟩
 ·have:=h.1 e;omega
 have:=h.2 e;omega
theorem ok_yes{c:VFnT}{a:AllT}{x:LocT}{lo hi:Int}(N:(x.inS=true/\lo=c.m/\hi=a.k)\/(x.inS=false/\lo=0/\hi=5))(E:((decide (x.x<lo))||(decide (hi<=x.x)))=false):okL c a x:=by
 rw[a1l,decide_eq_false_iff_not,decide_eq_false_iff_not]at E;rcases N with⟨e,rfl,rfl⟩|⟨e,rfl,rfl⟩
 ·exact⟨fun _=>by omega,fun h=>by rw[e]at h;cases h⟩
 exact⟨(fun h=>by rw[e]at h;cases h),fun _=>by omega⟩
theorem loc_eq{x y:LocT}(h:(x.inS==y.inS&&(x.x==y.x&&true))=true):x=y:=by obtain⟨a,i⟩:=x;obtain⟨b,j⟩:=y;simp at h;obtain⟨rfl,rfl⟩:=h;rfl
theorem loc_nq{x y:LocT}(h:(x.inS==y.inS&&(x.x==y.x&&true))=false):x≠y:=fun e=>by subst e;simp at h
theorem lst_at{S:Nat->Prop}{l:List Int}{p:Nat}(E:Lst l S)(N:p<l.length):S (l.getD p 0).toNat:=((E.mem _).1 (iJ N)).2
theorem sound_c{a7:Option Addr}{b2:Nat}(c:VFnT){b6:Option Addr}{cc:Nat}{ap:Option Addr}{ax:Nat}(a:AllT)(hs:HS (.of H []) F H [] R)(hI:in64 c.m)(hJ:in64 c.r)(T:SR F (sL a7 c.u.length b2) c.u)(N:SR F (sL ap a.l.length ax) a.l)(hG:SR F (sL b6 a.p.length cc) a.p)(hH:in64 a.k)(hT:TB 37 tabC F)(a6: ∀j,(c.u.getD j v_).v.length<=1073741822):kKt ex 35 [(aG [(iI c.m),(iI c.r),(sL a7 c.u.length b2)]),(aG [(sL ap a.l.length ax),(sL b6 a.p.length cc),(iI a.k)])] H fun v H'=> ∃(o:Bool) (F':Fz),Fz.le F F'/\HS (.of H []) F' H' [] R/\v= .bool o/\o=bP (SndP c a):=by
 refine aC Tryz.func35 V V (am 1 V (ab (bd (aR hs V V) V V ?_)));rintro _ H2 _ ⟨b1,rfl,g6,_⟩;refine bd (aR g6 V V) V V ?_;rintro _ H4 _ ⟨b3,rfl,a4,_⟩;refine za (.bool false) (ah 3 V (sj 1 17 39 [] [(39,(.bool ((((!(ca c))||((a.l.length:Int) !=c.r))||(decide (a.k<c.m)))||(decide ((3000:Int)<a.k)))))] (Hr_ 0 0 (Hk_ 1 (jc a4 fun _ _ j q=>m3.kE ex c q M M (T.mono j) (hT.mono j) (fun j=>a0e (a6 j) M)) (Hj1_ 5 (fun _=>(jl a4 29 0 1 V V V)) (Hj1_ 8 (fun _=>(jl a4 3 1 0 V V V)) (Hj1_ 13 (fun _=>(jl a4 3 2 1 V V V)) (Hj1_ 15 (fun _=>(jl a4 3 0 0 V V V)) (Hj1_ 20 (fun _=>(jl a4 3 2 1 V V V)) Hn_))))))) a4 V V fun iz H5 F5 an ch=>?_));replace hT:=hT.mono an;replace N:=N.mono an;replace T:=T.mono an;refine zi 1 3 (fun cg=>?_) fun cg=>?_
 ·have c6:=cg;try simp only[BS]at c6
  have ad: ¬SndP c a:=snd_no0 cg;refine wT 1 [] 4 4 [] [(4,(.bool false))] V fun _=>aj ⟨.inr V,_,V,false,_,(an),(HS.forget ch),V,(bP_n ad)⟩
 have co:=snd_yes0 cg;have hv:=co.1;have jb:=co.2.1;have kp:=co.2.2.1;have ko:=co.2.2.2;have vF:=e7 hv;have l1:=vF.nb;have ho:=vF.r;have l2:=vF.m;let e4:Value:=(aG [(iI c.m),(iI c.r),(sL a7 c.u.length b2)])
 refine ab (aY 1 0 41 41 [] [(41,e4)] (Hr_ 0 0 Hn_) ch V V fun _=>zc (md.blocks_c ex c (HS.call ch) M M T hT (fun j=>a0e (a6 j) M)) ?_);rintro _ H9 ⟨f7,g7,x9,h7,i3,y9,F9,ay,a5,rfl,dv,hK,i2,i1⟩;replace a5:=HS.back ch V a5;replace hT:=hT.mono ay;replace N:=N.mono ay;replace T:=T.mono ay;refine bL 5 2 43 44 [5,6,40] [(5,(sL f7 x9.length g7))] Hn_ (by kernel_rfl) V fun _=>ah 2 V ?_
 have bk:BkF c x9 _:=(by assumption:ca c=true->BkF c x9 _) hv;have l0:=bk.lx;have e6:Lst ((x9).getD 0 v_) (LIn c 0):=bk.hx 0 M;obtain⟨hh,d1⟩:=Sv.view (SR.sv dv a5);have i4:=fL (d1 0);refine wrp 1 45 49 [] [(49,(.bool (decide ((0:Int)<((x9.getD 0 v_).length:Int)))))] (Ha_ (Sv.ix (j:=0) (SR.sv dv a5)) (Hl_ 2 (ql 22 0 (vL (d1 0)) V V) Hn_)) (by kernel_rfl) V fun _=>zd 1 3 (fun f8=>?_) fun f8=>?_
 ·have ad: ¬SndP c a:=fun h=>(in_some e6 M M).elim fun r hr=>h.z r hr
  refine wT 1 [] 4 4 [] [(4,(.bool false))] V fun _=>aj ⟨.inr V,_,V,false,_,(fT (an) ay),(HS.forget a5),V,(bP_n ad)⟩
 have hz: ∀r,¬ptS c 0 0 r:=in_none e6 M M;let b4:Fp:=(fP b1 [(iI c.m),(iI c.r),(sL a7 c.u.length b2)])
 let b5:Fp:=(fP b3 [(sL ap a.l.length ax),(sL b6 a.p.length cc),(iI a.k)])
 refine aU 2 50 53 [] [(51,(sL ap a.l.length ax)),(52,(iI (a.l.length:Int))),(53,(iI 0))] (Hr_ 1 1 Hn_) a5 V V fun _=>ak (fun(mm:Nat) f H'=> ∃(k:Nat) (F':Fz),Fz.le F9 F'/\HS (Base.of H []) F' H' [b4,b5] R/\aB f [(2,(pT b1 0)),(3,(pT b3 0)),(51,(sL ap a.l.length ax)),(52,(iI (a.l.length:Int))),(53,(iI (k:Int)))]/\mm=a.l.length-k/\(k<=a.l.length)/\(∀q,q<k->okL c a (iY a q))) _ ⟨0,_,fR,a5,⟨V,V,V,V,V,trivial⟩,V,M,(fun q h=>absurd h (a0B _))⟩ ?_
 rintro hL h8 hV ⟨k,f3,Z,av,dk,rfl,hk,hok⟩ fi;refine au _ dk (fun _=>?_);clear dk;replace hT:=hT.mono Z;replace N:=N.mono Z;replace T:=T.mono Z;refine am 1 V (wT 2 [] 54 54 [] [(54,(.bool (decide ((k:Int)<(a.l.length:Int)))))] V fun _=>zd 4 6 (fun f9=>?_) fun f9=>?_)
 ·refine ab ?_;obtain⟨hl,d2⟩:=Sv.view (SR.sv N av);have g9:=LocT.fx (d2 k);refine bL 2 0 55 56 [] [(56,(aG [(.bool (a.l.getD k v_).inS),(iI (a.l.getD k v_).x)]))] (Ha_ (Sv.ix (j:=(k:Int)) (SR.sv N av)) (Hl_ 1 (qn 39 0 2 (LocT.vw (d2 k)) V V V V) Hn_)) (by kernel_rfl) V fun _=>zn av V fun e5 hW fd=>sgo 1 3 1 0 [] [] (Hr_ 3 2 Hn_) fd V V fun hw hX bb=>ah 2 V (wT 3 [] 1 0 [9,10] [(9,(iI 0)),(10,(iI 5))] V fun _=>aU 1 57 58 [] [(58,(.bool (a.l.getD k v_).inS))] (Hr_ 1 2 Hn_) bb V V fun _=>?_)
  refine bj (fun f H'=> ∃(lo:Int) (hi:Int) (F':Fz),Fz.le f3 F'/\HS (Base.of H []) F' H' [b4,b5,(fP e5 [(.bool (a.l.getD k v_).inS),(iI (a.l.getD k v_).x)])] R/\aB f [(2,(pT b1 0)),(3,(pT b3 0)),(8,(pT e5 0)),(9,(iI lo)),(10,(iI hi)),(51,(sL ap a.l.length ax)),(52,(iI (a.l.length:Int))),(53,(iI (k:Int)))]/\(((a.l.getD k v_).inS=true/\lo=c.m/\hi=a.k)\/((a.l.getD k v_).inS=false/\lo=0/\hi=5))/\(in64 lo)/\(in64 hi)) (fun e1=>?_) ?_
  ·refine zI 0 0 (fun go=>?_) fun go=>?_
   ·refine sdr0 0 59 62 [9,10] [(9,(iI c.m)),(10,(iI a.k))] (Hr_ 1 0 (Hr_ 3 1 Hn_)) bb V V V fun _=>?_
    exact e1 _ _ ⟨c.m,a.k,_,fR,bb,⟨V,V,V,V,V,V,V,V,trivial⟩,(.inl ⟨by assumption,V,V⟩),M,M⟩
   exact e1 _ _ ⟨0,5,_,fR,bb,⟨V,V,V,V,V,V,V,V,trivial⟩,(.inr ⟨by assumption,V,V⟩),M,M⟩
  skip;rintro h9 hY ⟨lo,hi,hQ,c9,bl,dl,hlh,rlo,rhi⟩;refine au _ dl (fun _=>?_);clear dl;refine am 2 V (aU 1 63 72 [] [(72,(.bool ((decide ((a.l.getD k v_).x<lo))||(decide (hi<=(a.l.getD k v_).x)))))] (Hr_ 1 2 (be 6 (fun _=>(ql 3 1 (j_ bl V) V V)) Hn_)) bl V V fun _=>zi 1 2 (fun a8=>?_) fun a8=>?_)
  ·have g1:=a8;try simp only[BS]at g1
   have ad: ¬SndP c a:=fun h=>ok_no hlh a8 (h.loc k M)
   refine wT 1 [] 4 4 [] [(4,(.bool false))] V fun _=>aj ⟨.inr V,_,V,false,_,(fT (fT (fT (an) ay) Z) c9),(HS.forget bl),V,(bP_n ad)⟩
  have jk:okL c a (iY a k):=ok_yes hlh a8;refine wU 1 [] 53 53 [73] [(53,(iI ((k:Int)+1)))] (vi (n:=(k:Int)+1)) V fun _=>?_
  refine fi _ _ _ ?_ ⟨k+1,_,(fT (Z) c9),(HS.sub bl (a03 _ _)),⟨V,V,V,V,V,trivial⟩,V,M,(gj hok jk)⟩;omega
 refine ab (aY 1 0 74 74 [] [(74,e4)] (Hr_ 0 0 Hn_) av V V fun _=>zc (nb.inter_c ex c (HS.call av) M M T hT X) ?_);rintro _ h0 ⟨c5,e2,E,f4,ar,b8,rfl,aA,hD,hA⟩;replace b8:=HS.back av V b8;refine bL 2 2 76 77 [] [(76,(iI (E.length:Int))),(77,(iI 0))] Hn_ (by kernel_rfl) V fun _=>ah 2 V (ak (fun(mm:Nat) f H'=> ∃(r:Nat) (F':Fz),Fz.le f4 F'/\HS (Base.of H []) F' H' [b4,b5] R/\aB f [(2,(pT b1 0)),(3,(pT b3 0)),(75,(sL c5 E.length e2)),(76,(iI (E.length:Int))),(77,(iI (r:Int)))]/\mm=a.l.length-r/\(r<=a.l.length)/\(∀q,q<r->∀y,Sy (j9 c) q y->iY a q≠iY a y)) _ ⟨0,_,fR,b8,⟨V,V,V,V,V,trivial⟩,V,M,(fun q h=>absurd h (a0B _))⟩ ?_)
 rintro hM ib h3 ⟨r,f5,aa,aw,dn,rfl,hr,hdi⟩ fj;refine au _ dn (fun _=>?_);clear dn;replace hT:=(hT.mono ar).mono aa;replace N:=(N.mono ar).mono aa;replace T:=(T.mono ar).mono aa;replace aA:=aA.mono aa;refine am 1 V ?_;have hg:=(by assumption:ca c=true->InF c E) hv;have ly:=hg.len;refine wT 2 [] 78 78 [] [(78,(.bool (decide ((r:Int)<(E.length:Int)))))] V fun _=>zd 4 6 (fun g2=>?_) fun g2=>?_
 ·have a0:Lst ((E).getD r v_) (Sy (j9 c) r):=hg.row r M;have l3:=Lst.len a0 ho.1 (fun y h=>(sy_lt2 vF h));have ks:=kZ a0 (fun y h=>(sy_lt2 vF h));obtain⟨aq,ef⟩:=Sv.view (SR.sv aA aw);have ci:=fL (ef r);refine wrp 2 79 81 [11,12] [(11,(iI (r:Int))),(12,(sL (cA (aq r) 0) (E.getD r v_).length (cK (aq r) 0)))] (Ha_ (Sv.ix (j:=(r:Int)) (SR.sv aA aw)) (Hl_ 2 (ql 22 0 (vL (ef r)) V V) Hn_)) (by kernel_rfl) V fun _=>wT 2 [] 82 84 [] [(82,(sL (cA (aq r) 0) (E.getD r v_).length (cK (aq r) 0))),(83,(iI ((E.getD r v_).length:Int))),(84,(iI 0))] V fun _=>ak (fun(mm:Nat) f H'=> ∃(j:Nat) (F':Fz),Fz.le f5 F'/\HS (Base.of H []) F' H' [b4,b5] R/\aB f [(2,(pT b1 0)),(3,(pT b3 0)),(11,(iI (r:Int))),(75,(sL c5 E.length e2)),(76,(iI (E.length:Int))),(77,(iI (r:Int))),(82,(sL (cA (aq r) 0) (E.getD r v_).length (cK (aq r) 0))),(83,(iI ((E.getD r v_).length:Int))),(84,(iI (j:Int)))]/\mm=((E).getD r v_).length-j/\(j<=((E).getD r v_).length)/\(∀p,p<j->iY a r≠iY a (((E).getD r v_).getD p 0).toNat)) _ ⟨0,_,fR,aw,⟨V,V,V,V,V,V,V,V,V,trivial⟩,V,M,(fun q h=>absurd h (a0B _))⟩ ?_
  rintro hO ih h4 ⟨j,hR,a2,a_,ds,rfl,hj,hdj⟩ f0;refine au _ ds (fun _=>?_);clear ds;replace N:=N.mono a2;replace ci:=ci.mono a2;refine am 1 V (wT 2 [] 85 85 [] [(85,(.bool (decide ((j:Int)<((E.getD r v_).length:Int)))))] V fun _=>zd 4 5 (fun g3=>?_) fun g3=>?_)
  ·have l5:=dG ks (k:=j) M;have ky:=lst_at a0 (p:=j) M;obtain⟨hm,et⟩:=Sv.view (SR.sv ci a_);have il:=fI (et j);refine wrp 2 86 87 [14] [(14,(iI ((E.getD r v_).getD j 0)))] (Ha_ (Sv.ix (j:=(j:Int)) (SR.sv ci a_)) (Hl_ 1 (ql 3 0 (vI (et j)) V V) Hn_)) (by kernel_rfl) V fun _=>?_
   obtain⟨hn,bz⟩:=Sv.view (SR.sv N a_);have ha:=LocT.fx (bz r);have hb:=LocT.fx (bz ((E.getD r v_).getD j 0).toNat);refine sdr0 1 88 98 [] [(98,(.bool (((a.l.getD r v_).inS==(a.l.getD ((E.getD r v_).getD j 0).toNat v_).inS)&&(((a.l.getD r v_).x==(a.l.getD ((E.getD r v_).getD j 0).toNat v_).x)&&true))))] (Hr_ 1 1 (Ha_ (Sv.ix (j:=(r:Int)) (SR.sv N a_)) (Hl_ 4 (qn 39 0 2 (hc0 (LocT.vw (bz r))) V V V V) (Hr_ 6 1 (Ha_ (Sv.ix (j:=((E.getD r v_).getD j 0)) (SR.sv N a_)) (Hl_ 9 (qn 39 0 2 (hc0 (LocT.vw (bz ((E.getD r v_).getD j 0).toNat))) V V V V) (Ho_ 10 (.o (.bool (((a.l.getD r v_).inS==(a.l.getD ((E.getD r v_).getD j 0).toNat v_).inS)&&(((a.l.getD r v_).x==(a.l.getD ((E.getD r v_).getD j 0).toNat v_).x)&&true)))) (agEq (P:=Tryz.prog) (t:=39) (xs:=[(.bool (a.l.getD r v_).inS),(iI (a.l.getD r v_).x)]) (ys:=[(.bool (a.l.getD ((E.getD r v_).getD j 0).toNat v_).inS),(iI (a.l.getD ((E.getD r v_).getD j 0).toNat v_).x)]) (bs:=[((a.l.getD r v_).inS==(a.l.getD ((E.getD r v_).getD j 0).toNat v_).inS),((a.l.getD r v_).x==(a.l.getD ((E.getD r v_).getD j 0).toNat v_).x)]) V V V (by kernel_rfl) (by kernel_rfl) (.cons ⟨by decide,_,_,V,V,eqB V⟩ (.cons ⟨by decide,_,_,V,V,eqI V⟩ .nil))) Hn_))))))) a_ V V V fun _=>zi 1 2 (fun a9=>?_) fun a9=>?_
   ·have g4:=a9;try simp only[BS]at g4
    have kn:iY a r=iY a (((E).getD r v_).getD j 0).toNat:=loc_eq a9;have ad: ¬SndP c a:=fun h=>h.dis r _ M ky kn
    refine wT 1 [] 4 4 [] [(4,(.bool false))] V fun _=>aj ⟨.inr V,_,V,false,_,(fT (fT (fT (fT (fT (an) ay) Z) ar) aa) a2),(HS.forget a_),V,(bP_n ad)⟩
   have dj:iY a r≠iY a (((E).getD r v_).getD j 0).toNat:=loc_nq a9;refine wU 1 [] 84 84 [99] [(84,(iI ((j:Int)+1)))] (vi (n:=(j:Int)+1)) V fun _=>?_
   refine f0 _ _ _ ?_ ⟨j+1,_,(a2),a_,⟨V,V,V,V,V,V,V,V,V,trivial⟩,V,M,(gj hdj dj)⟩;omega
  refine wU 1 [] 77 77 [100] [(77,(iI ((r:Int)+1)))] (vi (n:=(r:Int)+1)) V fun _=>?_
  refine fj _ _ _ ?_ ⟨r+1,_,(fT (aa) a2),a_,⟨V,V,V,V,V,trivial⟩,V,M,(gj hdi (snd_row a0 M hdj))⟩;omega
 refine ab (aY 1 0 101 101 [] [(101,e4)] (Hr_ 0 0 Hn_) aw V V fun _=>zc (mg.across_c ex c (HS.call aw) M M T hT (fun j=>a0e (a6 j) M)) ?_);rintro _ h5 ⟨e8,f2,U,g8,f6,b7,b9,rfl,a1,hE,hB⟩;replace b9:=HS.back aw V b9;refine bL 2 2 103 104 [] [(103,(iI (U.length:Int))),(104,(iI 0))] Hn_ (by kernel_rfl) V fun _=>ah 2 V (ak (fun(mm:Nat) f H'=> ∃(p:Nat) (F':Fz),Fz.le f6 F'/\HS (Base.of H []) F' H' [b4,b5,g8] R/\aB f [(3,(pT b3 0)),(102,(sL e8 U.length f2)),(103,(iI (U.length:Int))),(104,(iI (p:Int)))]/\mm=(U).length-p/\(p<=(U).length)/\(∀q,q<p->(iY a ((U).getD q 0).toNat).inS=true)) _ ⟨0,_,fR,b9,⟨V,V,V,V,trivial⟩,V,M,(fun q h=>absurd h (a0B _))⟩ ?_)
 rintro hP ik h6 ⟨p,hS,a3,ag,dt,rfl,hp,dd⟩ f1;refine au _ dt (fun _=>?_);clear dt;replace N:=(N.mono b7).mono a3;replace a1:=a1.mono a3;refine am 1 V ?_;have ao:=(by assumption:ca c=true->Lst U (acS c)) hv;have kl:=kZ ao (fun r h=>mV vF (a0d _) h);have lr:=Lst.len ao ho.1 (fun r h=>mV vF (a0d _) h);refine wT 2 [] 105 105 [] [(105,(.bool (decide ((p:Int)<(U.length:Int)))))] V fun _=>zd 4 5 (fun g5=>?_) fun g5=>?_
 ·have l4:=dG kl (k:=p) M;have kx:=lst_at ao (p:=p) M;obtain⟨ht,ez⟩:=Sv.view (OS.sv a1 ag (i:=2) V);have it:=fI (ez p);refine wrp 2 106 107 [16] [(16,(iI (U.getD p 0)))] (Ha_ (Sv.ix (j:=(p:Int)) (OS.sv a1 ag (i:=2) V)) (Hl_ 1 (ql 3 0 (vI (ez p)) V V) Hn_)) (by kernel_rfl) V fun _=>?_
  obtain⟨hu,e0⟩:=Sv.view (SR.sv N ag);have he:=LocT.fx (e0 (U.getD p 0).toNat);refine aU 1 108 114 [] [(114,(.bool (!(a.l.getD (U.getD p 0).toNat v_).inS)))] (Hr_ 1 1 (Ha_ (Sv.ix (j:=(U.getD p 0)) (SR.sv N ag)) (Hl_ 5 (ql 4 0 (LocT.vw (e0 (U.getD p 0).toNat)) V V) Hn_))) ag V V fun _=>zI 1 2 (fun c8=>?_) fun c8=>?_
  ·have ad: ¬SndP c a:=fun h=>by have h1:=h.acr _ kx;have h2:=c8;(unfold iY at h1;simp_all)
   refine wT 1 [] 4 4 [] [(4,(.bool false))] V fun _=>aj ⟨.inr V,_,V,false,_,(fT (fT (fT (fT (fT (fT (an) ay) Z) ar) aa) b7) a3),(HS.forget ag),V,(bP_n ad)⟩
  have dj:(iY a ((U).getD p 0).toNat).inS=true:=by have h2:=c8;(unfold iY;simp_all)
  refine wU 1 [] 104 104 [115] [(104,(iI ((p:Int)+1)))] (vi (n:=(p:Int)+1)) V fun _=>?_
  refine f1 _ _ _ ?_ ⟨p+1,_,(a3),ag,⟨V,V,V,V,trivial⟩,V,M,(gj dd dj)⟩;omega
 have ja:SndP c a:=⟨hv,jb,kp,ko,hz,fun q hq=>hok q M,fun q y hq=>hdi q M y,snd_acr ao M dd⟩
 refine wT 1 [] 4 4 [] [(4,(.bool true))] V fun _=>aj ⟨.inr V,_,V,true,_,(fT (fT (fT (fT (fT (fT (an) ay) Z) ar) aa) b7) a3),(HS.forget ag),V,(bP_y ja)⟩
end nv
open nv
namespace rl
variable (ex:FuncId) {F:Fz} {H:Heap} {R:List Fp}
theorem sy_ne{c:VFnT}{q y:Nat}(h:Sy (j9 c) q y):q≠y:=fun e=>by subst e;rcases h with⟨b,i,_,_,h⟩|⟨b,i,_,_,h⟩<;>exact h.2.2.1 V
def SpO(E:List SpiT):Prop:= ∀s∈E,s.oth.length<=3000
theorem spo_snoc{E:List SpiT}{x:SpiT}(h:SpO E)(N:x.oth.length<=3000):SpO (E++[x]):=fun s hs=>by
 rw[a07,a08]at hs;rcases hs with hs|rfl
 ·exact h s hs
 exact N
def conV2(sp:List Bool)(x:Int):Bool:= !(sp.getD x.toNat false)
def uns(sp:List Bool)(l:List Int):List Int:=l.filter (conV2 sp)
theorem j1{sp:List Bool}{l o:List Int}{i:Nat}(h:i<l.length)(E:o=uns sp (l.take i)):(sp.getD (l.getD i 0).toNat false=false->o++[l.getD i 0]=uns sp (l.take (i+1)))/\(sp.getD (l.getD i 0).toNat false=true->o=uns sp (l.take (i+1))):=by
 unfold uns at E⊢;rw[aX h (d:=0),List.filter_append,←E];constructor
 ·intro hc;unfold conV2;rw[a1C,hc];rfl
 intro hc;unfold conV2;rw[a1C,hc];simp
theorem uns_len{sp:List Bool}{l:List Int}:(uns sp l).length<=l.length:=a1a _ _
theorem uns_mem{sp:List Bool}{l:List Int}{x:Int}(h:x∈uns sp l):x∈l/\sp.getD x.toNat false=false:=by unfold uns conV2 at h;rw[a24]at h;exact⟨h.1,by simpa using h.2⟩
theorem dS{sp:List Bool}{i j:Nat}:(sp.set i true).getD j false=true↔(i=j/\i<sp.length)\/sp.getD j false=true:=by
 rw[cz];by_cases h:i=j/\j<sp.length
 ·obtain⟨rfl,N⟩:=h;rw[if_pos ⟨V,N⟩];exact⟨fun _=> .inl ⟨V,N⟩,fun _=>rfl⟩
 rw[if_neg h];exact⟨.inr,fun T=>T.elim (fun E=>absurd ⟨E.1,E.1▸E.2⟩ h) id⟩
theorem set_false{sp:List Bool}{i j:Nat}(h:(sp.set i true).getD j false=false):sp.getD j false=false:=by
 rcases E:sp.getD j false with _|_
 ·rfl
 rw[dS.2 (.inr E)]at h;exact h
theorem uns_lt{sp:List Bool}{l:List Int}{x:Int}(U:x∈l)(T:x.toNat<sp.length):(uns (sp.set x.toNat true) l).length<l.length:=by
 unfold uns;rcases a0g (l.filter (conV2 (sp.set x.toNat true))).length l.length with h|h
 ·exact h
 exfalso;have N:=a1a (conV2 (sp.set x.toNat true)) l;have E:=(List.length_filter_eq_length_iff.1 (Nat.le_antisymm N h)) x U;unfold conV2 at E;rw[dS.2 (.inl ⟨V,T⟩)]at E;cases E
def SpA(c:VFnT)(sp:List Bool):Prop:= ∀r,acS c r->sp.getD r false=true
theorem SpA.set{c:VFnT}{sp:List Bool}(h:SpA c sp)(i:Nat):SpA c (sp.set i true):=fun r E=>dS.2 (.inr (h r E))
theorem spc_step{l:List Int}{sp:List Bool}{q:Nat}(h: ∀k,k<q->sp.getD (l.getD k 0).toNat false=true)(N:(l.getD q 0).toNat<sp.length): ∀k,k<q+1->(sp.set (l.getD q 0).toNat true).getD (l.getD k 0).toNat false=true:=fun k T=>by
 rcases a0g k q with E|E
 ·exact dS.2 (.inr (h k E))
 obtain rfl:k=q:=M
 exact dS.2 (.inl ⟨V,N⟩)
theorem lst_ix{l:List Int}{S:Nat->Prop}(h:Lst l S){r:Nat}(N:S r): ∃k,k<l.length/\l.getD k 0=(r:Int):=by have:=(h.mem (r:Int)).2 ⟨by omega,by rw[a0E];exact N⟩;obtain⟨k,E,e⟩:=a0t.1 this;exact⟨k,E,by rw[a02,a06 E];exact e⟩
theorem spa_of{c:VFnT}{l:List Int}{sp:List Bool}{q:Nat}(h:Lst l (acS c))(hs: ∀k,k<q->sp.getD (l.getD k 0).toNat false=true)(U:l.length<=q):SpA c sp:=fun r T=>by obtain⟨k,N,E⟩:=lst_ix h T;have:=hs k M;rwa [E,a0E]at this
structure SpF(c:VFnT)(sp:List Bool)(sl:List SpiT):Prop where
 len:sp.length=c.r.toNat
 cnt:sl.length<=3000+sp.count true
 oth:SpO sl
 acs:SpA c sp
theorem cnt_set{l:List Bool}: ∀{i:Nat},i<l.length->l.getD i false=false->(l.set i true).count true=l.count true+1:=by
 induction l with
 |nil=>intro i h;exact absurd h (a0B _)
 |cons b l ih=>
  intro i h E
  cases i with
  |zero=>
   have E:b=false:=E
   subst E
   rw[List.set_cons_zero,List.count_cons_self,List.count_cons_of_ne e_]
  |succ i=>
   rw[a26,List.count_cons,List.count_cons,ih (Nat.lt_of_succ_lt_succ h) E];omega
theorem SpF.set{c:VFnT}{sp:List Bool}{T:List SpiT}{x:SpiT}{r:Nat}(h:SpF c sp T)(Z:r<c.r.toNat)(hs:sp.getD r false=false)(U:x.oth.length<=3000):SpF c (sp.set r true) (T++[x]):=by have E:=h.len;have N:=h.cnt;exact⟨a0h.trans E,by rw[cnt_set M hs,a01,a0j];omega,spo_snoc h.oth U,h.acs.set _⟩
theorem SpF.small{c:VFnT}{sp:List Bool}{Z:List SpiT}(h:SpF c sp Z)(v:VF c):Z.length<=6000:=by have E:=h.len;have N:=h.cnt;have T:=v.r;have U:=List.count_le_length (a:=true) (l:=sp);omega
theorem spf_0{c:VFnT}{sp:List Bool}{Z:List SpiT}{q:Nat}(E:sp.length=c.r.toNat)(U:Z.length<=q)(a_:q<=3000)(N:SpO Z)(T:SpA c sp):SpF c sp Z:=⟨E,by omega,N,T⟩
theorem mem_mono{l m:List Int}{lo hi:Int}(h: ∀x∈l,lo<=x/\x<hi)(E: ∀x∈m,x∈l): ∀x∈m,lo<=x/\x<hi:=fun x N=>h x (E x N)
theorem uns_uns{sp:List Bool}{l:List Int}{i:Nat}:uns (sp.set i true) (uns sp l)=uns (sp.set i true) l:=by
 unfold uns;rw[List.filter_filter];refine List.filter_congr fun x _=>?_
 unfold conV2;rcases h:(sp.set i true).getD x.toNat false with _|_
 ·rw[set_false h];rfl
 rfl
theorem uns_lt2{sp:List Bool}{l:List Int}{x:Int}(N:x∈uns sp l)(E:x.toNat<sp.length):(uns (sp.set x.toNat true) l).length<(uns sp l).length:=by rw[←uns_uns];exact uns_lt N E
structure ColF(c:VFnT)(sp:List Bool)(ll:List LocT)(hd:List Bool)(r:Nat):Prop where
 one: ∀q,q<r->hd.getD q false=true\/sp.getD q false=true
 had: ∀q,hd.getD q false=true->q<r/\sp.getD q false=false/\(ll.getD q v_).inS=false/\0<=(ll.getD q v_).x/\(ll.getD q v_).x<5
 dis: ∀q y,hd.getD q false=true->hd.getD y false=true->Sy (j9 c) q y->(ll.getD q v_).x≠(ll.getD y v_).x
theorem rep_f(n q:Nat):(List.replicate n false).getD q false=false:=by rw[a02,a1d];split<;>rfl
theorem col_0{c:VFnT}{sp:List Bool}{ll:List LocT}{n:Nat}:ColF c sp ll (List.replicate n false) 0:=⟨fun _ h=>absurd h (a0B _),fun q h=>(by rw[rep_f]at h;cases h),fun q y h=>(by rw[rep_f]at h;cases h)⟩
theorem ColF.skip{c:VFnT}{sp:List Bool}{ll:List LocT}{T:List Bool}{r:Nat}(h:ColF c sp ll T r)(hs:sp.getD r false=true):ColF c sp ll T (r+1):=⟨fun q U=>by
 rcases a0g q r with E|E
 ·exact h.one q E
 obtain rfl:q=r:=M
 exact .inr hs,fun q U=>by obtain⟨E,N⟩:=h.had q U;exact⟨by omega,N⟩,h.dis⟩
theorem ColF.spill{c:VFnT}{sp:List Bool}{ll:List LocT}{U:List Bool}{r:Nat}(h:ColF c sp ll U r)(hr:r<sp.length):ColF c (sp.set r true) ll U (r+1):=⟨fun q Z=>by
 rcases a0g q r with E|E
 ·exact(h.one q E).imp id fun N=>dS.2 (.inr N)
 ·obtain rfl:q=r:=M
  exact .inr (dS.2 (.inl ⟨V,hr⟩)),fun q Z=>by
 obtain⟨E,N,T⟩:=h.had q Z;exact⟨by omega,by rw[cz,if_neg M];exact N,T⟩,h.dis⟩
theorem set_b{N:List Bool}{r q:Nat}(h:(N.set r true).getD q false=true):q=r\/q≠r/\N.getD q false=true:=by
 by_cases e:q=r
 ·exact .inl e
 rw[cz,if_neg (fun E=>e E.1.symm)]at h;exact .inr ⟨e,h⟩
theorem ColF.put{c:VFnT}{sp:List Bool}{ll:List LocT}{hd:List Bool}{r m:Nat}(h:ColF c sp ll hd r)(v:VF c)(hs:sp.getD r false=false)(hm:m<5)(hl:r<ll.length)(hh:r<hd.length)(hi: ∀y,Sy (j9 c) r y->¬(hd.getD y false=true/\(ll.getD y v_).x=(m:Int))):ColF c sp (ll.set r ⟨false,(m:Int)⟩) (hd.set r true) (r+1):=by
 have a_:(ll.set r ⟨false,(m:Int)⟩).getD r v_=⟨false,(m:Int)⟩:=by rw[cz,if_pos ⟨V,hl⟩]
 have T: ∀q,q≠r->(ll.set r ⟨false,(m:Int)⟩).getD q v_=ll.getD q v_:=fun q hq=>by rw[cz,if_neg (fun E=>hq E.1.symm)]
 refine⟨fun q hq=>?_,fun q hq=>?_,fun q y hq hy aa=>?_⟩
 ·rcases a0g q r with N|N
  ·exact(h.one q N).imp (fun E=>dS.2 (.inr E)) id
  obtain rfl:q=r:=M
  exact .inl (dS.2 (.inl ⟨V,hh⟩))
 ·rcases set_b hq with rfl|⟨N,E⟩
  ·rw[a_];exact⟨a1b _,hs,V,by dsimp only;omega,by dsimp only;omega⟩
  obtain⟨Z,U⟩:=h.had q E;rw[T q N];exact⟨by omega,U⟩
 rcases set_b hq with rfl|⟨N,E⟩<;>rcases set_b hy with rfl|⟨Z,U⟩
 ·exact absurd V (sy_ne aa)
 ·rw[a_,T y Z];exact fun e=>hi y aa ⟨U,e.symm⟩
 ·rw[a_,T q N];exact fun e=>hi q (Or.symm aa) ⟨E,e⟩
 rw[T q N,T y Z];exact h.dis q y E U aa
theorem col_free{c:VFnT}{T:List Int}{ll:List LocT}{U:List Bool}{r m:Nat}{wz Z:Int}(hl:Lst T (Sy (j9 c) r))(h:wz<0->∀j:Nat,Z<(j:Int)->j<T.length->¬(U.getD (T.getD j 0).toNat false=true/\(ll.getD (T.getD j 0).toNat v_).x=(m:Int)))(hw:wz<0)(hi:Z<0): ∀y,Sy (j9 c) r y->¬(U.getD y false=true/\(ll.getD y v_).x=(m:Int)):=fun y hy=>by obtain⟨k,E,N⟩:=lst_ix hl hy;have:=h hw k M E;rwa [N,a0E]at this
theorem col_no{N:List Int}{P:Int->Prop}{U T:Int}(h:U<0->∀j:Nat,T<(j:Int)->j<N.length->¬P (N.getD j 0))(hn:U<0->0<=T->¬P (N.getD T.toNat 0)):U<0->∀j:Nat,T-1<(j:Int)->j<N.length->¬P (N.getD j 0):=fun Z j hj hl=>by
 rcases Int.lt_or_le T (j:Int) with E|E
 ·exact h Z j E hl
 obtain rfl:T=(j:Int):=M
 have:=hn Z M;rwa [a0E]at this
structure FinF(c:VFnT)(sp:List Bool)(ll lf:List LocT)(sz:Int)(rr:Nat):Prop where
 old: ∀q,rr<=q\/sp.getD q false=false->lf.getD q v_=ll.getD q v_
 new: ∀q,q<rr->sp.getD q false=true->(lf.getD q v_).inS=true/\c.m<=(lf.getD q v_).x/\(lf.getD q v_).x<sz
 dis: ∀q y,q<y->y<rr->sp.getD q false=true->sp.getD y false=true->(lf.getD q v_).x<(lf.getD y v_).x
theorem fin_0{c:VFnT}{sp:List Bool}{ll:List LocT}{sz:Int}:FinF c sp ll ll sz 0:=⟨fun _ _=>rfl,fun _ h=>absurd h (a0B _),fun _ _ _ h=>absurd h (a0B _)⟩
theorem FinF.skip{c:VFnT}{sp:List Bool}{ll Z:List LocT}{sz:Int}{T:Nat}(h:FinF c sp ll Z sz T)(hs:sp.getD T false=false):FinF c sp ll Z sz (T+1):=by
 have ne: ∀q,q<T+1->sp.getD q false=true->q<T:=fun q U E=>by
  rcases a0g q T with N|N
  ·exact N
  obtain rfl:q=T:=M
  rw[hs]at E;cases E
 exact⟨fun q U=>h.old q (U.imp (fun E=>by omega) id),fun q U E=>h.new q (ne q U E) E,fun q y U hy E N=>h.dis q y U (ne y hy N) E N⟩
theorem FinF.put{c:VFnT}{sp:List Bool}{ll lf:List LocT}{sz:Int}{rr:Nat}(h:FinF c sp ll lf sz rr)(hs:sp.getD rr false=true)(hl:rr<lf.length)(hz:c.m<=sz):FinF c sp ll (lf.set rr ⟨true,sz⟩) (sz+1) (rr+1):=by
 have U:(lf.set rr ⟨true,sz⟩).getD rr v_=⟨true,sz⟩:=by rw[cz,if_pos ⟨V,hl⟩]
 have T: ∀q,q≠rr->(lf.set rr ⟨true,sz⟩).getD q v_=lf.getD q v_:=fun q hq=>by rw[cz,if_neg (fun N=>hq N.1.symm)]
 refine⟨fun q hq=>?_,fun q hq E=>?_,fun q y hq hy E N=>?_⟩
 ·have:q≠rr:=fun e=>by subst e;rw[hs]at hq;exact hq.elim (fun h=>by omega) fun h=>by cases h
  rw[T q this];exact h.old q (hq.imp (fun E=>by omega) id)
 ·by_cases e:q=rr
  ·subst e;rw[U];exact⟨V,hz,by dsimp only;omega⟩
  rw[T q e];obtain⟨N,a_,Z⟩:=h.new q M E;exact⟨N,a_,by omega⟩
 rw[T q M];by_cases e:y=rr
 ·subst e;rw[U];exact(h.new q hq E).2.2
 rw[T y e];exact h.dis q y hq M E N
theorem snd_fin{c:VFnT}{sp:List Bool}{sl:List SpiT}{ll lf:List LocT}{hd:List Bool}{sz:Int}{r rr:Nat}{x:AllT}(v:VF c)(hv:ca c=true)(hz: ∀r,¬ptS c 0 0 r)(hs:SpF c sp sl)(hc:ColF c sp ll hd r)(hf:FinF c sp ll lf sz rr)(hr:c.r.toNat<=r)(hq:c.r.toNat<=rr)(hl:lf.length=c.r.toNat)(ap:c.m<=sz)(aq:sz<=3000)(e1:x.l=lf)(e2:x.k=sz):SndP c x:=by
 have hg:=v.r;have N: ∀q,iY x q=lf.getD q v_:=fun q=>by unfold iY;rw[e1]
 have O: ∀q,q<c.r.toNat->sp.getD q false=false->lf.getD q v_=ll.getD q v_/\hd.getD q false=true:=fun q E T=>⟨hf.old q (.inr T),(hc.one q M).elim id fun U=>by rw[T]at U;cases U⟩
 refine⟨hv,by rw[e1];omega,by omega,by omega,hz,fun q hq=>?_,fun q y hq ai=>?_,fun r hr=>?_⟩
 ·have hq:q<c.r.toNat:=by rw[e1]at hq;omega
  rw[N];unfold okL;rw[e2];rcases hb:sp.getD q false with _|_
  ·obtain⟨E,T⟩:=O q hq hb;obtain⟨_,_,U,a_,h5⟩:=hc.had q T;rw[E];exact⟨fun h=>by(rw[U]at h;cases h),fun _=>⟨a_,h5⟩⟩
  obtain⟨E,T,U⟩:=hf.new q M hb;exact⟨fun _=>⟨T,U⟩,fun h=>by(rw[E]at h;cases h)⟩
 ·have hq:q<c.r.toNat:=by rw[e1]at hq;omega
  have hy:y<c.r.toNat:=by have:=sy_lt2 v ai;omega
  have hn:=sy_ne ai;rw[N,N];intro e;rcases hb:sp.getD q false with _|_<;>rcases Z:sp.getD y false with _|_
  ·obtain⟨E,T⟩:=O q hq hb;obtain⟨U,a_⟩:=O y hy Z;rw[E,U]at e;exact hc.dis q y T a_ ai (by rw[e])
  ·obtain⟨E,T⟩:=O q hq hb;have U:=(hc.had q T).2.2.1;have a_:=(hf.new y M Z).1;rw[←e,E,U]at a_;cases a_
  ·obtain⟨E,T⟩:=O y hy Z;have U:=(hc.had y T).2.2.1;have a_:=(hf.new q M hb).1;rw[e,E,U]at a_;cases a_
  rcases a0g q y with E|E
  ·have:=hf.dis q y E M hb Z;rw[e]at this;omega
  have:=hf.dis y q M M Z hb;rw[e]at this;omega
 have a2:r<c.r.toNat:=by have:=mV v (a0d _) hr;omega
 rw[N];exact(hf.new r M (hs.acs r hr)).1
theorem fcall_c{Z:Option Addr}{ag:Nat}(c:VFnT)(r:Int)(hs:HS (.of H []) F H [] R)(e3:in64 c.m)(e4:in64 c.r)(T:SR F (sL Z c.u.length ag) c.u)(hr:in64 r)(hT:TB 37 tabC F)(ai: ∀j,(c.u.getD j v_).v.length<=1073741822)(hv:ca c=true):kKt ex 105 [(aG [(iI c.m),(iI c.r),(sL Z c.u.length ag)]),(iI r)] H fun v H'=> ∃(x:Int) (y:Int) (F':Fz),Fz.le F F'/\HS (.of H []) F' H' [] R/\v= .tuple ⟨[iI x,iI y]⟩/\(in64 x)/\(in64 y):=by
 have vF:=e7 hv;have g4:=vF.nb;have en:=vF.r;refine aC Tryz.func105 V V (am 1 V (ab (bd (aR hs V V) V V ?_)));rintro _ H2 _ ⟨b1,rfl,cc,_⟩;let b2:Fp:=(fP b1 [(iI c.m),(iI c.r),(sL Z c.u.length ag)])
 refine wTo 2 1 [] 4 5 [] [(4,(iI 0)),(5,(iI 0))] V fun _=>ah 3 V (wT 2 [] 1 0 [6] [(6,(iI 0))] V fun _=>ak (fun(mm:Nat) f H'=> ∃(b:Nat) (F':Fz),Fz.le F F'/\HS (Base.of H []) F' H' [b2] R/\aB f [(1,(iI r)),(2,(pT b1 0)),(6,(iI (b:Int)))]/\mm=c.u.length-b/\(b<=c.u.length)) _ ⟨0,_,fR,cc,⟨V,V,V,trivial⟩,V,M⟩ ?_)
 rintro f3 f5 H5 ⟨b,F5,an,ap,bz,rfl,hb⟩ cg;refine au _ bz (fun _=>?_);clear bz;replace hT:=hT.mono an;replace T:=T.mono an;refine am 2 V (aU 1 9 13 [] [(13,(.bool (decide ((b:Int)<(c.u.length:Int)))))] (Hr_ 2 0 Hn_) ap V V fun _=>zd 4 5 (fun c7=>?_) fun c7=>?_)
 ·have a6:b<c.u.length:=M
  have g2:=ai b;refine ab (aY 2 0 16 17 [] [(16,(aG [(iI c.m),(iI c.r),(sL Z c.u.length ag)])),(17,(iI (b:Int)))] (Hr_ 0 0 Hn_) ap V V fun _=>zc (mj.rlp_c ex c (b:Int) (HS.call ap) M M T M hT (fun j=>a0e (ai j) M)) ?_);rintro _ H9 ⟨ax,a7,a_,F9,av,a2,rfl,ar,f2,f1⟩;replace a2:=HS.back ap V a2;refine za (sL ax a_.length a7) (ah 2 V ?_);have pf:PtF c b a_:=(by assumption:ca c=true->0<=((b:Nat):Int)->((b:Nat):Int)<(c.u.length:Int)->PtF c ((b:Nat):Int).toNat a_) hv M M;have g5:(a_).length=(c.u.getD b v_).v.length+1:=pf.len;refine wT 2 [] 1 0 [8] [(8,(iI 0))] V fun _=>ak (fun(mm:Nat) f H'=> ∃(k:Nat) (F':Fz),Fz.le F9 F'/\HS (Base.of H []) F' H' [b2] R/\aB f [(1,(iI r)),(2,(pT b1 0)),(6,(iI (b:Int))),(7,(sL ax a_.length a7)),(8,(iI (k:Int)))]/\mm=(c.u.getD b v_).v.length-k/\(k<=(c.u.getD b v_).v.length)) _ ⟨0,_,fR,a2,⟨V,V,V,V,V,trivial⟩,V,M⟩ ?_
  rintro fd f0 b7 ⟨k,fi,U,E,a1,rfl,hk⟩ b4;refine au _ a1 (fun _=>?_);clear a1;replace hT:=(hT.mono av).mono U;replace T:=(T.mono av).mono U;replace ar:=ar.mono U;refine am 2 V ?_;obtain⟨e1,a3⟩:=Sv.view (SR.sv T E);obtain⟨ch,ci,co,c5,dv⟩:=BlkT.fx (a3 b);refine aU 1 19 27 [] [(27,(.bool (decide ((k:Int)<((c.u.getD b v_).v.length:Int)))))] (Hr_ 2 0 (Ha_ (Sv.ix (j:=(b:Int)) (SR.sv T E)) (Hl_ 6 (ql 80 0 (BlkT.vw (a3 b)) V V) Hn_))) E V V fun _=>zd 4 5 (fun b9=>?_) fun b9=>?_
  ·have b0:k<(c.u.getD b v_).v.length:=M
   have g1:((((a_).getD (((k:Nat):Int)+1).toNat v_).length:Nat):Int)<=c.r:=Lst.len (pf.pt (k+1) b0) en.1 (fun r h=>iG vF a6 h);have e5:((c.u.getD b v_).v.getD k v_).args.length<=6:=(bF (vF.v b a6 k b0)).2.2;have g3:=acV_len (v:=((c.u.getD b v_).v.getD k v_)) (l:=((a_).getD (((k:Nat):Int)+1).toNat v_));refine aL V ?_;obtain⟨e2,a4⟩:=Sv.view (SR.sv T E);obtain⟨c6,c8,c9,dd,aw⟩:=BlkT.fx (a4 b);obtain⟨aA,a5⟩:=Sv.view (SR.sv aw E);obtain⟨dk,dl,dn,ds,dt,bl⟩:=VInT.fx (a5 k);refine eO 11 30 40 [] [(38,(aG [(iI ((c.u.getD b v_).v.getD k v_).i.op),(iI ((c.u.getD b v_).v.getD k v_).i.a),(iI ((c.u.getD b v_).v.getD k v_).i.b),(iI ((c.u.getD b v_).v.getD k v_).i.c),(iI ((c.u.getD b v_).v.getD k v_).i.n),(sL (cA (aA k) 5) ((c.u.getD b v_).v.getD k v_).args.length (cK (aA k) 5))])),(39,(sL ax a_.length a7)),(40,(iI (k:Int)))] (Hr_ 1 0 (Ha_ (Sv.ix (j:=(b:Int)) (SR.sv T E)) (Hl_ 5 (ql 80 0 (hc0 (BlkT.vw (a4 b))) V V) (Ha_ (Sv.ix (j:=(k:Int)) (SR.sv aw E)) (Hl_ 8 (qn 88 0 6 (hc0 (VInT.vw (a5 k))) V V V V) Hn_))))) E V V fun _=>ba (W:=[]) (aO V V V) V V V (mh.oe ex a_ (k:Int) (HS.call E.log0) ar M hT M) (⟨.inl V,.inl V,.inr trivial,.inr trivial,.inr trivial,.inr trivial,.inr trivial,.inr trivial,.inr trivial,.inr a0k,q_⟩) ?_
   rintro _ _ ⟨et,e6,f4,rfl,rfl,bb,rfl⟩;refine⟨fun b hb=>absurd hb a0k,fun b5 a8=>?_⟩;have aa:=HS.lg E.log0 E a8;generalize ({{b7 with log:=[]} with log:=b5}:Heap)=d2 at aa⊢;refine ba (W:=[]) (aO V V V) V V V (mh.acall_c ex ((c.u.getD b v_).v.getD k v_) (a_.getD ((k:Int)+1).toNat v_) (HS.call aa.log0) M M M M M bl bb hT M M) (kb V) ?_;rintro _ b8 ⟨ez,e8,f6,fj,aq,N,rfl,bk,rfl⟩;refine⟨Wr.did N.log,fun b6 a9=>?_⟩;replace N:=HS.back aa.log0 V N;replace N:=HS.lg N aa a9;generalize ({b8 with log:=b6}:Heap)=ef at N⊢;replace hT:=hT.mono aq;refine eO 2 43 44 [] [(44,(.bool (jJ (acV ((c.u.getD b v_).v.getD k v_) (a_.getD ((k:Int)+1).toNat v_)) r)))] (Hc_ 14 (m6.dZ ex (acV ((c.u.getD b v_).v.getD k v_) (a_.getD ((k:Int)+1).toNat v_)) r (HS.call N.log0) bk M hT M) Hn_) N V V fun _=>bC 1 V (zi 1 2 (fun ay=>?_) fun ay=>?_)
   ·try simp only[BS]at ay
    refine wT 1 [] 4 5 [45,46] [(4,(iI (b:Int))),(5,(iI (k:Int)))] V fun _=>aj ⟨.inr V,_,V,(b:Int),(k:Int),_,(fT (fT (fT (an) av) U) aq),(HS.forget N),V,M,M⟩
   try simp only[BS]at ay
   refine wU 1 [] 28 29 [8] [(8,(iI ((k:Int)+1)))] (vi (n:=(k:Int)+1)) V fun _=>?_
   refine b4 _ _ _ ?_ ⟨k+1,_,(fT (U) aq),N,⟨V,V,V,V,V,trivial⟩,V,M⟩;omega
  refine wU 1 [] 14 15 [6] [(6,(iI ((b:Int)+1)))] (vi (n:=(b:Int)+1)) V fun _=>?_
  refine cg _ _ _ ?_ ⟨b+1,_,(fT (fT (an) av) U),E,⟨V,V,V,trivial⟩,V,M⟩;omega
 refine wT 1 [] 4 5 [] [(4,(iI (-1))),(5,(iI (-1)))] V fun _=>aj ⟨.inr V,_,V,(-1),(-1),_,(an),(HS.forget ap),V,M,M⟩
theorem ralloc_c{a7:Option Addr}{a8:Nat}(c:VFnT)(hs:HS (.of H []) F H [] R)(w7:in64 c.m)(w8:in64 c.r)(a5:SR F (sL a7 c.u.length a8) c.u)(hT:TB 37 tabC F)(jp: ∀j,(c.u.getD j v_).v.length<=1073741822)(hv:ca c=true)(CM:c.m+c.r<=3000)(hz: ∀r,¬ptS c 0 0 r):kKt ex 28 [(aG [(iI c.m),(iI c.r),(sL a7 c.u.length a8)])] H fun v H'=> ∃(x:AllT) (qb:Option Addr) (qO:Nat) (qc:Option Addr) (qP:Nat) (e:Int) (F':Fz),Fz.le F F'/\HS (.of H []) F' H' [] R/\v= .tuple ⟨[.agg ⟨[sL qb x.l.length qO,sL qc x.p.length qP,iI x.k]⟩,iI e]⟩/\in64 x.k/\SR F' (sL qb x.l.length qO) x.l/\SR F' (sL qc x.p.length qP) x.p/\e=0/\(x.l.length=c.r.toNat)/\(x.p.length<=6000)/\(SpO x.p)/\(SndP c x):=by
 have vF:=e7 hv;have CH:=vF.nb;have yT:=vF.r;have CJ:=vF.m;have A0:(List.replicate c.r.toNat false).length=c.r.toNat:=a0O;have xd:(List.replicate c.r.toNat (v_:LocT)).length=c.r.toNat:=a0O;refine aC Tryz.func28 V V (am 1 V (ab (bd (aR hs V V) V V ?_)));rintro _ H2 _ ⟨b1,rfl,ua,_⟩;let l1:Value:=(aG [(iI c.m),(iI c.r),(sL a7 c.u.length a8)])
 refine zn ua V fun b3 H4 qv=>za (iI 0) (ah 3 V (ab (aY 1 0 17 17 [] [(17,l1)] (Hr_ 0 0 Hn_) qv V V fun _=>zc (m3.gI ex c (HS.call qv) M M a5 hT (fun j=>a0e (jp j) M)) ?_)))
 rintro _ H6 ⟨r6,F6,qg,oY,rfl,rfl⟩;replace oY:=HS.back qv V oY;replace hT:=hT.mono qg;replace a5:=a5.mono qg;refine bL 1 2 19 19 [] [(19,(.bool (!(ca c))))] Hn_ (by kernel_rfl) V fun _=>ah 1 V (bW 2 (v:=(!(ca c))) V (by rw[hv];rfl) V V (ab (aY 1 0 22 22 [] [(22,l1)] (Hr_ 0 0 Hn_) oY V V fun _=>zc (mi.rblocks_c ex c (HS.call oY) M M a5 hT (fun j=>a0e (jp j) M)) ?_)))
 rintro _ H9 ⟨tT,ud,x9,x0,yn,y9,F9,qh,oc,rfl,qu,xb,yf,ye⟩;replace oc:=HS.back oY V oc;replace hT:=hT.mono qh;replace a5:=a5.mono qh;refine bL 5 2 24 25 [4,5,21] [(4,(sL tT x9.length ud))] Hn_ (by kernel_rfl) V fun _=>ah 3 V ?_
 have bk:BkF c x9 _:=(by assumption:ca c=true->BkF c x9 _) hv;have CG:=bk.lx;have sf:Lst ((x9).getD 0 v_) (LIn c 0):=bk.hx 0 M;have ub:(x9).getD 0 v_=[]:=List.eq_nil_iff_forall_not_mem.2 fun x hx=>hz x.toNat ((pt_in M _).2 ((sf.mem x).1 hx).2)
 obtain⟨ww,qy⟩:=Sv.view (SR.sv qu oc);have yq:=fL (qy 0);refine wrp 1 26 30 [] [(30,(.bool (decide ((0:Int)<((x9.getD 0 v_).length:Int)))))] (Ha_ (Sv.ix (j:=0) (SR.sv qu oc)) (Hl_ 2 (ql 22 0 (vL (qy 0)) V V) Hn_)) (by kernel_rfl) V fun _=>bW 2 (v:=(decide ((0:Int)<((x9.getD 0 v_).length:Int)))) V (by simp only[ub];rfl) V V (aL V (eO 3 32 34 [] [(32,l1),(34,(iI c.r))] (Hr_ 0 0 (Hr_ 2 0 Hn_)) oc V V fun _=>fu (id:= .x []) (cQ false oc.log0 V V V V V V V V V V M M) V V (by rintro _ _ sk ⟨p5,qI,rfl,k7,_,hwr⟩;exact dC V V (Wr.did hwr)) (⟨.inl V,.inl V,.inr a0k,trivial⟩) ?_))
 rintro _ tM sk ⟨p5,qI,rfl,k7,ki,_⟩ ts qY;replace ki:=HS.lg ki oc qY;generalize ({tM with log:=ts}:Heap)=vD at ki⊢;refine bE (v:=l1) (id:= .l b1) (mT (i:=0) V V V (HS.hc ki.log0 (i:=0) V) V V V) V V (jj V) (⟨.inr a0k,q_⟩) (ba (W:=[]) (aO V V V) V V V (ni.ruses_c ex c (HS.call ki.log0) M M a5 hT X) (⟨.inl V,.inr ⟨trivial,trivial⟩,.inr a0k,.inr trivial,.inr a0k,trivial⟩) ?_);rintro _ tN ⟨ci,co,et,tH,oy,i4,rfl,dl,wZ,wW⟩;refine⟨Wr.did i4.log,fun tt qZ=>?_⟩;replace i4:=HS.back ki.log0 V i4;replace i4:=HS.lg i4 ki qZ;generalize ({tN with log:=tt}:Heap)=vJ at i4⊢;replace hT:=hT.mono oy;replace a5:=a5.mono oy;replace k7:=k7.mono oy;refine wfv (v:=(aG [(iI c.m),(iI c.r),(sL a7 c.u.length a8),(sL p5 (List.replicate c.r.toNat false).length qI),(sL none 0 0),(sL ci et.length co)])) (ap_bld V V (by kernel_rfl)) (fu (id:= .a) (aR i4.log0 V V) V V (fun _ _ _ _=>did_a V V V) (kb V) ?_);rintro _ tO _ ⟨aq,rfl,oO,_⟩ tu q0;replace oO:=HS.lg oO i4 q0;generalize ({tO with log:=tu}:Heap)=vK at oO⊢;refine fa (pT aq 0) V V V (bC 2 V ?_);have CE:=((by assumption:ca c=true->CntF c (usedC c) et) hv).len;refine ab (zm (pT aq 0) ?_);have pc:=HS.snoc oO;let g2:Fp:=(fP b1 [(iI c.m),(iI c.r),(sL a7 c.u.length a8)])
 let g3:Fp:=(fP b3 [(sL none 0 0),(sL none 0 0),(iI 0)])
 refine zc (R:=fun v H'=> ∃(ly:List Bool) (slA:List SpiT) (hX:Fp) (hD:Option Addr) (hP:Nat) (hY:Fp) (hE:Option Addr) (hQ:Nat) (F':Fz),Fz.le tH F'/\HS (Base.of H []) F' H' [g2,g3,hX,(fP aq [(iI c.m),(iI c.r),(sL a7 c.u.length a8),(sL hD ly.length hP),(sL hE slA.length hQ),(sL ci et.length co)]),hY] R/\OS F' (sL hD ly.length hP) ly hX/\OS F' (sL hE slA.length hQ) slA hY/\v= .tuple #[]/\(SpF c ly slA)) ?_ ?_
 ·refine aC Tryz.func57 V V (am 1 V (ab (aY 4 0 6 9 [] [(9,l1)] (Hr_ 3 3 Hn_) pc V V fun _=>zc (mj.rac_c ex c (HS.call pc) M M a5 hT (fun j=>a0e (jp j) M)) ?_)));rintro _ xK ⟨qa,qN,e0,tI,oE,pd,rfl,hC,w2,wX⟩;replace pd:=HS.back pc V pd;replace k7:=k7.mono oE;refine za (sL qa e0.length qN) (ah 2 V ?_);have yS:=(by assumption:ca c=true->Lst e0 (acS c)) hv;have z9:=kZ yS (fun r h=>mV vF (a0d _) h);have CC:=Lst.len yS yT.1 (fun r h=>mV vF (a0d _) h);refine wT 2 [] 1 0 [3] [(3,(iI 0))] V fun _=>ak (fun(mm:Nat) f H'=> ∃(sp:List Bool) (sl:List SpiT) (q:Nat) (f7:Fp) (b2:Option Addr) (b5:Nat) (h0:Fp) (fd:Option Addr) (f3:Nat) (F':Fz),Fz.le tI F'/\HS (Base.of H []) F' H' [g2,g3,f7,(fP aq [(iI c.m),(iI c.r),(sL a7 c.u.length a8),(sL b2 sp.length b5),(sL fd sl.length f3),(sL ci et.length co)]),h0] R/\OS F' (sL b2 sp.length b5) sp f7/\OS F' (sL fd sl.length f3) sl h0/\aB f [(0,(pT aq 0)),(2,(sL qa e0.length qN)),(3,(iI (q:Int)))]/\mm=e0.length-q/\(sp.length=c.r.toNat)/\(sl.length<=q)/\(SpO sl)/\(∀k,k<q->sp.getD ((e0).getD k 0).toNat false=true)/\(q<=e0.length)) _ ⟨List.replicate c.r.toNat false,([]:List SpiT),0,sk,p5,qI,[],none,0,_,fR,pd,k7,(OS.nil:OS _ (sL none 0 0) ([]:List SpiT) []),⟨V,V,V,trivial⟩,V,o_,o_,(fun _ h=>(by cases h)),(fun _ h=>absurd h (a0B _)),M⟩ ?_
  rintro xm x2 xL ⟨sp,sl,q,f7,b2,b5,h0,fd,f3,xC,nx,kk,f1,hJ,qi,rfl,lsp,lsl,lso,hsc,hq⟩ ti;refine au _ qi (fun _=>?_);clear qi;replace hT:=(hT.mono oE).mono nx;replace a5:=(a5.mono oE).mono nx;replace hC:=hC.mono nx;refine am 2 V (wT 1 [] 11 14 [] [(14,(.bool (decide ((q:Int)<(e0.length:Int)))))] V fun _=>zd 4 3 (fun tU=>?_) fun tU=>?_)
  ·have CO:=dG z9 (k:=q) M;refine aL V ?_;obtain⟨wx,qz⟩:=Sv.view (SR.sv hC kk);have x8:=fI (qz q);refine eO 8 18 25 [] [(21,l1),(25,(iI (e0.getD q 0)))] (Hr_ 3 3 (Ha_ (Sv.ix (j:=(q:Int)) (SR.sv hC kk)) (Hl_ 7 (ql 3 0 (hc0 (vI (qz q))) V V) Hn_))) kk V V fun _=>ba (W:=[]) (aO V V V) V V V (fcall_c ex c (e0.getD q 0) (HS.call kk.log0) M M a5 M hT M M) (kb V) ?_
   rintro _ tP ⟨o4,o5,tJ,oG,h8,rfl,w3,w6⟩;refine⟨Wr.did h8.log,fun tw q1=>?_⟩;replace h8:=HS.back kk.log0 V h8;replace h8:=HS.lg h8 kk q1;generalize ({tP with log:=tw}:Heap)=wb at h8⊢;replace hC:=hC.mono oG;replace f1:=f1.mono oG;replace hJ:=hJ.mono oG;refine eO 5 27 28 [4,5,17] [(4,(iI o4)),(5,(iI o5))] Hn_ h8 V V fun _=>bC 1 V (ab ?_)
   obtain⟨wy,qA⟩:=Sv.view (SR.sv hC h8);have ya:=fI (qA q);let sq:Value:=(aG [(iI (e0.getD q 0)),(iI 1),(iI o4),(iI o5),(sL none 0 0)])
   refine bL 8 0 29 36 [] [(29,(pT aq 0)),(36,sq)] (Ha_ (Sv.ix (j:=(q:Int)) (SR.sv hC h8)) (Hl_ 4 (ql 3 0 (vI (qA q)) V V) Hn_)) (by kernel_rfl) V fun _=>zc (R:=fun v H'=> ∃(s1:List Bool) (s2:List SpiT) (h3:Fp) (hF:Option Addr) (hR:Nat) (h4:Fp) (hG:Option Addr) (hS:Nat) (F':Fz),Fz.le tJ F'/\HS (Base.of H []) F' H' [g2,g3,h3,(fP aq [(iI c.m),(iI c.r),(sL a7 c.u.length a8),(sL hF s1.length hR),(sL hG s2.length hS),(sL ci et.length co)]),h4] R/\OS F' (sL hF s1.length hR) s1 h3/\OS F' (sL hG s2.length hS) s2 h4/\v= .tuple #[]/\(s1=(sp).set ((e0.getD q 0)).toNat true)/\(s2=sl++[(⟨(e0.getD q 0),1,o4,o5,([]:List Int)⟩:SpiT)])) ?_ ?_
   ·refine aC Tryz.func59 V V (am 1 V (ab (bd (aR h8 V V) V V ?_)));rintro _ xN _ ⟨x1,rfl,oP,_⟩;refine ah 2 V (aL V (eO 7 4 10 [] [(10,(.pointer (some ⟨sB (sL b2 sp.length b5),sO (sL b2 sp.length b5)+(e0.getD q 0).toNat *Rp.sz Bool,none⟩)))] (Hr_ 3 3 (Hr_ 5 5 (Ha_ (Sv.ix (j:=(e0.getD q 0)) (OS.sv f1 oP (i:=2) V)) Hn_))) oP V V fun _=>gP (id:= .x (f7.map Prod.fst)) (dm (α:=Bool) (j:=(e0.getD q 0).toNat) (off:=0) (q:=2) true f1 oP.log0 V V V V V V V V (bg (x:=false) M) V (by rintro cs rfl;exact⟨a0a V,V⟩)) V (by rintro _ _ sn ⟨o9,_,hwr⟩;exact dC V V (Wr.did hwr)) (kb V) ?_));rintro _ tR sn ⟨o9,oa,_⟩ tx q2;replace oa:=HS.lg oa oP q2;generalize ({tR with log:=tx}:Heap)=wc at oa⊢;have uQ:=OS.len' o9;refine bC 1 V (aL V (eO 6 11 16 [] [(11,(pT aq 0)),(15,(sL fd sl.length f3)),(16,sq)] (Hr_ 4 3 (Hr_ 5 5 Hn_)) oa V V fun _=>zld ([(⟨(e0.getD q 0),1,o4,o5,([]:List Int)⟩:SpiT)]:List SpiT) oa V (RL.cs ⟨none,0,V,by(dsimp only;omega),by(dsimp only;omega),by(dsimp only;omega),by(dsimp only;omega),SR.nil⟩ RL.nl) V fun xY yk yo we s3 qw=>zad 4 hJ qw (OS.sv s3 qw (i:=6) V) V V V M (kb V) fun tS uc ue wg s4 ta=>sdo 3 19 20 [] [] (Hr_ 10 3 Hn_) ta V V fun wS xO tc=>?_));refine bC 0 V (aP ⟨.inl V,_,V,sp.set (e0.getD q 0).toNat true,sl++([(⟨(e0.getD q 0),1,o4,o5,([]:List Int)⟩:SpiT)]:List SpiT),sn,b2,b5,ue,tS,uc,_,fR,(by(simpa only[a0h] using(HS.sub tc (a03 _ _)))),(OS.norm o9),s4,V,m_,m_⟩)
   rintro _ xM ⟨s1,s2,h3,hF,hR,h4,hG,hS,xD,sZ,s9,o2,o3,rfl,i2,lr⟩;refine ah 2 V (wU 1 [] 15 16 [3] [(3,(iI ((q:Int)+1)))] (vi (n:=(q:Int)+1)) V fun _=>?_);refine ti _ _ _ ?_ ⟨s1,s2,q+1,h3,hF,hR,h4,hG,hS,_,(fT (fT (nx) oG) sZ),s9,o2,o3,⟨V,V,V,trivial⟩,V,(by rw[i2,a0h];exact lsp),(by rw[lr,a01,a0j];omega),(by rw[lr];exact spo_snoc lso (a0D _)),(by rw[i2];exact spc_step hsc M),M⟩;omega
  refine aP ⟨.inl V,_,V,sp,sl,f7,b2,b5,h0,fd,f3,_,(fT (oE) nx),kk,f1,hJ,V,(spf_0 lsp lsl M lso (spa_of yS hsc M))⟩
 rintro _ xJ ⟨ly,slA,hX,hD,hP,hY,hE,hQ,sb,oz,s8,o0,o1,rfl,hsp⟩;replace hT:=hT.mono oz;replace a5:=a5.mono oz;replace dl:=dl.mono oz;refine ah 2 V (ab (zm (pT aq 0) (zc (R:=fun v H'=> ∃(mo:List Bool) (lp:List SpiT) (h5:Fp) (hH:Option Addr) (hV:Nat) (h6:Fp) (hI:Option Addr) (hW:Nat) (F':Fz),Fz.le sb F'/\HS (Base.of H []) F' H' [g2,g3,h5,(fP aq [(iI c.m),(iI c.r),(sL a7 c.u.length a8),(sL hH mo.length hV),(sL hI lp.length hW),(sL ci et.length co)]),h6] R/\OS F' (sL hH mo.length hV) mo h5/\OS F' (sL hI lp.length hW) lp h6/\v= .tuple #[]/\(SpF c mo lp)) ?_ ?_)))
 ·refine aC Tryz.func58 V V (am 1 V (wT 2 [] 1 0 [2] [(2,(iI 0))] V fun _=>ak (fun(mm:Nat) f H'=> ∃(sp:List Bool) (sl:List SpiT) (b:Nat) (f8:Fp) (fi:Option Addr) (f4:Nat) (f9:Fp) (fj:Option Addr) (f5:Nat) (F':Fz),Fz.le sb F'/\HS (Base.of H []) F' H' [g2,g3,f8,(fP aq [(iI c.m),(iI c.r),(sL a7 c.u.length a8),(sL fi sp.length f4),(sL fj sl.length f5),(sL ci et.length co)]),f9] R/\OS F' (sL fi sp.length f4) sp f8/\OS F' (sL fj sl.length f5) sl f9/\aB f [(0,(pT aq 0)),(2,(iI (b:Int)))]/\mm=c.u.length-b/\(SpF c sp sl)/\(b<=c.u.length)) _ ⟨ly,slA,0,hX,hD,hP,hY,hE,hQ,_,fR,s8,o0,o1,⟨V,V,trivial⟩,V,X,M⟩ ?_));rintro xn x3 xQ ⟨sp,sl,b,f8,fi,f4,f9,fj,f5,xF,n1,ob,hK,hL,qj,rfl,t2,hb⟩ tj;refine au _ qj (fun _=>?_);clear qj;replace hT:=hT.mono n1;replace a5:=a5.mono n1;replace dl:=dl.mono n1;refine am 2 V (aU 1 8 15 [] [(15,(.bool (decide ((b:Int)<(c.u.length:Int)))))] (Hr_ 5 3 Hn_) ob V V fun _=>zd 4 3 (fun tV=>?_) fun tV=>?_)
  ·have zV:b<c.u.length:=M
   have CD:=jp b;refine ab (aY 5 0 18 22 [] [(21,l1),(22,(iI (b:Int)))] (Hr_ 3 3 Hn_) ob V V fun _=>zc (mj.rlp_c ex c (b:Int) (HS.call ob) M M a5 M hT (fun j=>a0e (jp j) M)) ?_);rintro _ xR ⟨oo,oR,ap,tK,n2,pg,rfl,c6,w4,wY⟩;replace pg:=HS.back ob V pg;replace hK:=hK.mono n2;replace hL:=hL.mono n2;refine za (sL oo ap.length oR) (ah 2 V ?_);have pf:PtF c b ap:=(by assumption:ca c=true->0<=((b:Nat):Int)->((b:Nat):Int)<(c.u.length:Int)->PtF c ((b:Nat):Int).toNat ap) hv M M;have CI:(ap).length=(c.u.getD b v_).v.length+1:=pf.len;refine wT 2 [] 1 0 [4] [(4,(iI 0))] V fun _=>ak (fun(mm:Nat) f H'=> ∃(it:List Bool) (l0:List SpiT) (k:Nat) (b7:Fp) (c7:Option Addr) (c9:Nat) (b8:Fp) (c8:Option Addr) (dd:Nat) (F':Fz),Fz.le tK F'/\HS (Base.of H []) F' H' [g2,g3,b7,(fP aq [(iI c.m),(iI c.r),(sL a7 c.u.length a8),(sL c7 it.length c9),(sL c8 l0.length dd),(sL ci et.length co)]),b8] R/\OS F' (sL c7 it.length c9) it b7/\OS F' (sL c8 l0.length dd) l0 b8/\aB f [(0,(pT aq 0)),(2,(iI (b:Int))),(3,(sL oo ap.length oR)),(4,(iI (k:Int)))]/\mm=(ap).length-k/\(SpF c it l0)/\(k<=(ap).length)) _ ⟨sp,sl,0,f8,fi,f4,f9,fj,f5,_,fR,pg,hK,hL,⟨V,V,V,V,trivial⟩,V,M,M⟩ ?_
   rintro xo x4 xS ⟨it,l0,k,b7,c7,c9,b8,c8,dd,sc,n3,oQ,a9,hM,qk,rfl,t3,hk⟩ tk;refine au _ qk (fun _=>?_);clear qk;replace hT:=(hT.mono n2).mono n3;replace c6:=c6.mono n3;replace dl:=(dl.mono n2).mono n3;have yg:=t3.len;refine am 2 V (wT 1 [] 24 27 [] [(27,(.bool (decide ((k:Int)<(ap.length:Int)))))] V fun _=>zd 4 5 (fun tW=>?_) fun tW=>?_)
   ·have y0:Lst ((ap).getD k v_) (ptS c b k):=pf.pt k (show k<=(c.u.getD b v_).v.length by omega);have yj:=Lst.len y0 yT.1 (fun r h=>iG vF zV h);have vp:=kZ y0 (fun r h=>iG vF zV h);refine ab ?_;obtain⟨ov,qB⟩:=Sv.view (SR.sv c6 oQ);have ol:=fL (qB k);let ss:Fp:=(fP aq [(iI c.m),(iI c.r),(sL a7 c.u.length a8),(sL c7 it.length c9),(sL c8 l0.length dd),(sL ci et.length co)])
    refine bL 5 0 30 34 [] [(30,(pT aq 0)),(34,(sL (cA (ov k) 0) (ap.getD k v_).length (cK (ov k) 0)))] (Ha_ (Sv.ix (j:=(k:Int)) (SR.sv c6 oQ)) (Hl_ 4 (ql 22 0 (vL (qB k)) V V) Hn_)) (by kernel_rfl) V fun _=>zc (R:=fun v H'=> ∃(ur:List Int) (e6:Option Addr) (e8:Nat) (F':Fz),Fz.le sc F'/\HS (Base.of H []) F' H' [g2,g3,b7,ss,b8] R/\SR F' (sL e6 ur.length e8) ur/\v=(sL e6 ur.length e8)/\(ur=uns (it) ((ap.getD k v_)))) ?_ ?_
    ·have zZ:(it).length=c.r.toNat:=M
     refine aC Tryz.func106 V V (am 1 V (wT 2 [] 4 4 [] [(4,(sL none 0 0))] V fun _=>wT 3 [] 1 0 [5] [(5,(sL none 0 0))] V fun _=>wT 2 [] 1 0 [6] [(6,(iI 0))] V fun _=>?_));have te:=HS.snoc oQ;refine ak (fun(mm:Nat) f H'=> ∃(uo:List Int) (uj:Nat) (hA:Option Addr) (hB:Nat) (k4:Fp) (F':Fz),Fz.le sc F'/\HS (Base.of H []) F' H' [g2,g3,b7,ss,b8,k4] R/\OS F' (sL hA uo.length hB) uo k4/\aB f [(0,(pT aq 0)),(1,(sL (cA (ov k) 0) (ap.getD k v_).length (cK (ov k) 0))),(5,(sL hA uo.length hB)),(6,(iI (uj:Int)))]/\mm=((ap.getD k v_)).length-uj/\(uo=uns (it) (((ap.getD k v_)).take uj))/\(uj<=((ap.getD k v_)).length)) _ ⟨([]:List Int),0,none,0,[],_,fR,te,(OS.nil:OS _ (sL none 0 0) ([]:List Int) []),⟨V,V,V,V,trivial⟩,V,m_,M⟩ ?_;rintro xp x5 xU ⟨uo,uj,hA,hB,k4,xG,n4,h9,oh,qm,rfl,hu,huj⟩ qG;refine au _ qm (fun _=>?_);clear qm;replace a9:=a9.mono n4;replace ol:=ol.mono n4;have Ad:uo.length<=uj:=by rw[hu];exact a0e uns_len p_
     refine am 2 V (wT 1 [] 7 10 [] [(10,(.bool (decide ((uj:Int)<((ap.getD k v_).length:Int)))))] V fun _=>zd 4 5 (fun tY=>?_) fun tY=>?_)
     ·have Ae:=dG vp (k:=uj) M;obtain⟨wA,qC⟩:=Sv.view (SR.sv ol h9);have yb:=fI (qC uj);obtain⟨wB,th⟩:=Sv.view (OS.sv a9 h9 (i:=2) V);refine sdr0 1 13 23 [] [(23,(.bool (!(it.getD ((ap.getD k v_).getD uj 0).toNat false))))] (Hr_ 3 3 (Ha_ (Sv.ix (j:=(uj:Int)) (SR.sv ol h9)) (Hl_ 7 (ql 3 0 (hc0 (vI (qC uj))) V V) (Ha_ (Sv.ix (j:=((ap.getD k v_).getD uj 0)) (OS.sv a9 h9 (i:=2) V)) (Hl_ 9 (ql 4 0 (hc0 (vB (th ((ap.getD k v_).getD uj 0).toNat))) V V) Hn_))))) h9 V V V fun _=>zi 0 2 (fun qe=>?_) fun qe=>?_
      ·try simp only[BS]at qe
       refine ab ?_;obtain⟨wC,qD⟩:=Sv.view (SR.sv ol h9);have yc:=fI (qD uj);refine bL 5 0 24 28 [] [(24,(sL hA uo.length hB)),(28,(iI ((ap.getD k v_).getD uj 0)))] (Ha_ (Sv.ix (j:=(uj:Int)) (SR.sv ol h9)) (Hl_ 4 (ql 3 0 (vI (qD uj)) V V) Hn_)) (by kernel_rfl) V fun _=>zlo ([((ap.getD k v_).getD uj 0)]:List Int) h9 V (RL.cs ⟨V,by omega⟩ RL.nl) V fun xZ ym yp xV s5 qx=>zao 5 oh qx (OS.sv s5 qx (i:=6) V) V V V M fun se sg uf xX s6 tf=>za (sL se (uo++([((ap.getD k v_).getD uj 0)]:List Int)).length sg) (ah 2 V (wU 1 [] 11 12 [6] [(6,(iI ((uj:Int)+1)))] (vi (n:=(uj:Int)+1)) V fun _=>?_))
       refine qG _ _ _ ?_ ⟨uo++([((ap.getD k v_).getD uj 0)]:List Int),uj+1,se,sg,uf,_,(n4),(HS.sub tf (a03 _ _)),s6,⟨V,V,V,V,trivial⟩,V,((j1 M hu).1 X),M⟩;omega
      try simp only[BS]at qe
      refine wU 1 [] 11 12 [6] [(6,(iI ((uj:Int)+1)))] (vi (n:=(uj:Int)+1)) V fun _=>?_
      refine qG _ _ _ ?_ ⟨uo,uj+1,hA,hB,k4,_,(n4),h9,oh,⟨V,V,V,V,trivial⟩,V,((j1 M hu).2 (by simp_all)),M⟩;omega
     refine wT 1 [] 4 4 [31] [(4,(sL hA uo.length hB))] V fun _=>?_
     obtain⟨xH,s0,tg,s7,w9⟩:=OS.frz oh h9 (i:=5) V;refine aj ⟨.inr V,_,V,uo,hA,hB,_,(fT (n4) s0),(HS.sub tg (a03 _ _)),s7,V,(by rw[a0i M]at hu;exact hu)⟩
    rintro _ xT ⟨ur,e6,e8,tL,k6,td,oZ,rfl,hur⟩;replace a9:=a9.mono k6;replace hM:=hM.mono k6;refine za (sL e6 ur.length e8) (ah 2 V (ak (fun(mm:Nat) f H'=> ∃(i1:List Bool) (k5:List SpiT) (hw:List Int) (jb:Option Addr) (jq:Nat) (go:Fp) (b4:Option Addr) (b6:Nat) (h7:Fp) (f0:Option Addr) (f6:Nat) (F':Fz),Fz.le tL F'/\HS (Base.of H []) F' H' [g2,g3,go,(fP aq [(iI c.m),(iI c.r),(sL a7 c.u.length a8),(sL b4 i1.length b6),(sL f0 k5.length f6),(sL ci et.length co)]),h7] R/\SR F' (sL jb hw.length jq) hw/\OS F' (sL b4 i1.length b6) i1 go/\OS F' (sL f0 k5.length f6) k5 h7/\aB f [(0,(pT aq 0)),(2,(iI (b:Int))),(3,(sL oo ap.length oR)),(4,(iI (k:Int))),(5,(sL jb hw.length jq))]/\mm=hw.length/\(SpF c i1 k5)/\(hw=uns i1 ((ap).getD k v_))) _ ⟨it,l0,ur,e6,e8,b7,c7,c9,b8,c8,dd,_,fR,td,oZ,a9,hM,⟨V,V,V,V,V,trivial⟩,V,X,(hur)⟩ ?_));rintro xq x6 sd ⟨i1,k5,hw,jb,jq,go,b4,b6,h7,f0,f6,xI,n6,g4,ds,f2,hO,qo,rfl,qf,hhw⟩ tl;refine au _ qo (fun _=>?_);clear qo;replace hT:=(hT.mono k6).mono n6;replace c6:=(c6.mono k6).mono n6;replace dl:=(dl.mono k6).mono n6;have yh:=qf.len;have yi:=qf.small vF;have Aa:hw.length<=3000:=by rw[hhw];exact a0e uns_len M
    have wf: ∀x∈hw,0<=x/\x<c.r:=by rw[hhw];exact mem_mono vp fun x hx=>(uns_mem hx).1
    have Ab: ∀x∈hw,i1.getD x.toNat false=false:=by rw[hhw];exact fun x hx=>(uns_mem hx).2
    refine am 2 V (wT 1 [] 36 38 [] [(38,(.bool (decide ((5:Int)<(hw.length:Int)))))] V fun _=>zd 4 5 (fun tZ=>?_) fun tZ=>?_)
    ·have sf:=dG wf (k:=0) M;obtain⟨wD,qE⟩:=Sv.view (SR.sv ds g4);have yd:=fI (qE 0);refine wrp 3 45 47 [6] [(6,(iI (hw.getD 0 0)))] (Ha_ (Sv.ix (j:=0) (SR.sv ds g4)) (Hl_ 2 (ql 3 0 (vI (qE 0)) V V) Hn_)) (by kernel_rfl) V fun _=>wT 2 [] 1 0 [7] [(7,(iI 1))] V fun _=>ak (fun(mm:Nat) f H'=> ∃(rz:Int) (p:Nat),H'=sd/\aB f [(0,(pT aq 0)),(2,(iI (b:Int))),(3,(sL oo ap.length oR)),(4,(iI (k:Int))),(5,(sL jb hw.length jq)),(6,(iI rz)),(7,(iI (p:Int)))]/\mm=hw.length-p/\(rz∈hw)/\(p<=hw.length)) _ ⟨(hw.getD 0 0),1,V,⟨V,V,V,V,V,V,V,trivial⟩,V,(iJ M),M⟩ ?_
     rintro xr x7 sd ⟨rz,p,rfl,qp,rfl,hrz,hp⟩ qH;refine au _ qp (fun _=>?_);clear qp;have zY:=wf rz hrz;refine am 2 V (wT 1 [] 48 51 [] [(51,(.bool (decide ((p:Int)<(hw.length:Int)))))] V fun _=>zd 4 4 (fun t0=>?_) fun t0=>?_)
     ·have CN:=dG wf (k:=p) M;obtain⟨wE,qF⟩:=Sv.view (SR.sv ds g4);have wK:=fI (qF p);obtain⟨us,ne⟩:=Sv.view (SR.sv dl g4);have wL:=fI (ne (hw.getD p 0).toNat);have wM:=fI (ne rz.toNat);refine sdr0 1 54 71 [] [(71,(.bool (decide ((et.getD (hw.getD p 0).toNat 0)<=(et.getD rz.toNat 0)))))] (Hr_ 3 3 (Ha_ (Sv.ix (j:=(p:Int)) (SR.sv ds g4)) (Hl_ 7 (ql 3 0 (hc0 (vI (qF p))) V V) (Ha_ (Sv.ix (j:=(hw.getD p 0)) (SR.sv dl g4)) (Hl_ 9 (ql 3 0 (hc0 (vI (ne (hw.getD p 0).toNat))) V V) (Hr_ 13 3 (Ha_ (Sv.ix (j:=rz) (SR.sv dl g4)) (Hl_ 16 (ql 3 0 (hc0 (vI (ne rz.toNat))) V V) Hn_)))))))) g4 V V V fun _=>zd 0 2 (fun sP=>?_) fun sP=>?_
      ·obtain⟨ut,pN⟩:=Sv.view (SR.sv ds g4);have wN:=fI (pN p);refine wrp 2 72 75 [6] [(6,(iI (hw.getD p 0)))] (Ha_ (Sv.ix (j:=(p:Int)) (SR.sv ds g4)) (Hl_ 3 (ql 3 0 (vI (pN p)) V V) Hn_)) (by kernel_rfl) V fun _=>wU 1 [] 52 53 [7] [(7,(iI ((p:Int)+1)))] (vi (n:=(p:Int)+1)) V fun _=>?_
       refine qH _ _ _ ?_ ⟨(hw.getD p 0),p+1,V,⟨V,V,V,V,V,V,V,trivial⟩,V,(iJ M),M⟩;omega
      refine wU 1 [] 52 53 [7] [(7,(iI ((p:Int)+1)))] (vi (n:=(p:Int)+1)) V fun _=>?_
      refine qH _ _ _ ?_ ⟨rz,p+1,V,⟨V,V,V,V,V,V,V,trivial⟩,V,M,M⟩;omega
     have zY:=wf rz hrz;refine ab (wTo 6 0 [] 76 81 [] [(76,(pT aq 0)),(77,(iI rz)),(78,(iI (b:Int))),(79,(iI (k:Int))),(80,(sL jb hw.length jq)),(81,(iI rz))] V fun _=>zlo ([rz]:List Int) g4 V (RL.cs ⟨V,by omega⟩ RL.nl) V fun wj xg xt vh q3 rt=>?_);obtain⟨u5,kc,pD,rj,uR⟩:=OS.frz q3 rt (i:=5) V;replace hT:=hT.mono kc;replace ds:=ds.mono kc;refine zc (ma.minus_c ex hw ([rz]:List Int) (HS.call pD) ds rj hT (by(simp only[a0j];omega))) ?_;rintro _ vj ⟨pn,pZ,xA,xu,u7,l7,oL,rfl,qt,rfl⟩;replace oL:=HS.back pD V oL;let su:Value:=(aG [(iI rz),(iI 2),(iI (b:Int)),(iI (k:Int)),(sL pn (gT hw ([rz]:List Int)).length pZ)])
     refine wTo 1 8 [] 84 84 [] [(84,su)] V fun _=>?_
     obtain⟨sx,l8,ru,rk,uT⟩:=OS.frz qt oL (i:=6) V;replace c6:=((c6.mono kc).mono l7).mono l8;replace f2:=((f2.mono kc).mono l7).mono l8;replace hO:=((hO.mono kc).mono l7).mono l8;refine zc (R:=fun v H'=> ∃(s1:List Bool) (s2:List SpiT) (cg:Fp) (dv:Option Addr) (d2:Nat) (ch:Fp) (d1:Option Addr) (ef:Nat) (F':Fz),Fz.le sx F'/\HS (Base.of H []) F' H' [g2,g3,cg,(fP aq [(iI c.m),(iI c.r),(sL a7 c.u.length a8),(sL dv s1.length d2),(sL d1 s2.length ef),(sL ci et.length co)]),ch,[],[]] R/\OS F' (sL dv s1.length d2) s1 cg/\OS F' (sL d1 s2.length ef) s2 ch/\v= .tuple #[]/\(s1=(i1).set (rz).toNat true)/\(s2=k5++[(⟨rz,2,(b:Int),(k:Int),gT hw ([rz]:List Int)⟩:SpiT)])) ?_ ?_
     ·refine aC Tryz.func59 V V (am 1 V (ab (bd (aR ru V V) V V ?_)));rintro _ vm _ ⟨wt,rfl,l9,_⟩;refine ah 2 V (aL V (eO 7 4 10 [] [(10,(.pointer (some ⟨sB (sL b4 i1.length b6),sO (sL b4 i1.length b6)+rz.toNat *Rp.sz Bool,none⟩)))] (Hr_ 3 3 (Hr_ 5 7 (Ha_ (Sv.ix (j:=rz) (OS.sv f2 l9 (i:=2) V)) Hn_))) l9 V V fun _=>gP (id:= .x (go.map Prod.fst)) (dm (α:=Bool) (j:=rz.toNat) (off:=0) (q:=2) true f2 l9.log0 V V V V V V V V (bg (x:=false) M) V (by rintro cs rfl;exact⟨a0a V,V⟩)) V (by rintro _ _ qQ ⟨oH,_,hwr⟩;exact dC V V (Wr.did hwr)) (kb V) ?_));rintro _ sG qQ ⟨oH,ky,_⟩ r7 qq;replace ky:=HS.lg ky l9 qq;generalize ({sG with log:=r7}:Heap)=ug at ky⊢;have t4:=OS.len' oH;refine bC 1 V (aL V (eO 6 11 16 [] [(11,(pT aq 0)),(15,(sL f0 k5.length f6)),(16,su)] (Hr_ 4 3 (Hr_ 5 7 Hn_)) ky V V fun _=>zld ([(⟨rz,2,(b:Int),(k:Int),gT hw ([rz]:List Int)⟩:SpiT)]:List SpiT) ky V (RL.cs ⟨pn,pZ,V,by(dsimp only;omega),by(dsimp only;omega),by(dsimp only;omega),by(dsimp only;omega),rk⟩ RL.nl) V fun wk xh xv uh q4 pE=>zad 4 hO pE (OS.sv q4 pE (i:=8) V) V V V M (kb V) fun sJ tn tz ui q5 rv=>sdo 3 19 20 [] [] (Hr_ 10 3 Hn_) rv V V fun uG vn rx=>?_));refine bC 0 V (aP ⟨.inl V,_,V,i1.set rz.toNat true,k5++([(⟨rz,2,(b:Int),(k:Int),gT hw ([rz]:List Int)⟩:SpiT)]:List SpiT),qQ,b4,b6,tz,sJ,tn,_,fR,(by(simpa only[a0h] using(HS.sub rx (a03 _ _)))),(OS.norm oH),q5,V,m_,m_⟩)
     rintro _ vk ⟨s1,s2,cg,dv,d2,ch,d1,ef,p2,pq,oM,bz,il,rfl,i2,lr⟩;replace c6:=c6.mono pq;refine ah 2 V (ab ?_);obtain⟨l5,pO⟩:=Sv.view (SR.sv c6 oM);have k9:=fL (pO k);let sw:Fp:=(fP aq [(iI c.m),(iI c.r),(sL a7 c.u.length a8),(sL dv s1.length d2),(sL d1 s2.length ef),(sL ci et.length co)])
     refine bL 5 0 39 43 [] [(39,(pT aq 0)),(43,(sL (cA (l5 k) 0) (ap.getD k v_).length (cK (l5 k) 0)))] (Ha_ (Sv.ix (j:=(k:Int)) (SR.sv c6 oM)) (Hl_ 4 (ql 22 0 (vL (pO k)) V V) Hn_)) (by kernel_rfl) V fun _=>zc (R:=fun v H'=> ∃(ur:List Int) (dn:Option Addr) (dt:Nat) (F':Fz),Fz.le p2 F'/\HS (Base.of H []) F' H' [g2,g3,cg,sw,ch,[],[]] R/\SR F' (sL dn ur.length dt) ur/\v=(sL dn ur.length dt)/\(ur=uns (s1) ((ap.getD k v_)))) ?_ ?_
     ·have zZ:(s1).length=c.r.toNat:=by(rw[i2,a0h];omega)
      refine aC Tryz.func106 V V (am 1 V (wT 2 [] 4 4 [] [(4,(sL none 0 0))] V fun _=>wT 3 [] 1 0 [5] [(5,(sL none 0 0))] V fun _=>wT 2 [] 1 0 [6] [(6,(iI 0))] V fun _=>?_));have rA:=HS.snoc oM;refine ak (fun(mm:Nat) f H'=> ∃(uo:List Int) (uj:Nat) (e1:Option Addr) (e2:Nat) (kd:Fp) (F':Fz),Fz.le p2 F'/\HS (Base.of H []) F' H' [g2,g3,cg,sw,ch,[],[],kd] R/\OS F' (sL e1 uo.length e2) uo kd/\aB f [(0,(pT aq 0)),(1,(sL (cA (l5 k) 0) (ap.getD k v_).length (cK (l5 k) 0))),(5,(sL e1 uo.length e2)),(6,(iI (uj:Int)))]/\mm=((ap.getD k v_)).length-uj/\(uo=uns (s1) (((ap.getD k v_)).take uj))/\(uj<=((ap.getD k v_)).length)) _ ⟨([]:List Int),0,none,0,[],_,fR,rA,(OS.nil:OS _ (sL none 0 0) ([]:List Int) []),⟨V,V,V,V,trivial⟩,V,m_,M⟩ ?_;rintro uZ wF vr ⟨uo,uj,e1,e2,kd,va,ko,e4,k8,px,rfl,hu,huj⟩ pW;refine au _ px (fun _=>?_);clear px;replace bz:=bz.mono ko;replace k9:=k9.mono ko;have Ad:uo.length<=uj:=by rw[hu];exact a0e uns_len p_
      refine am 2 V (wT 1 [] 7 10 [] [(10,(.bool (decide ((uj:Int)<((ap.getD k v_).length:Int)))))] V fun _=>zd 4 5 (fun sQ=>?_) fun sQ=>?_)
      ·have Ae:=dG vp (k:=uj) M;obtain⟨uu,pP⟩:=Sv.view (SR.sv k9 e4);have wO:=fI (pP uj);obtain⟨uv,rY⟩:=Sv.view (OS.sv bz e4 (i:=2) V);refine sdr0 1 13 23 [] [(23,(.bool (!(s1.getD ((ap.getD k v_).getD uj 0).toNat false))))] (Hr_ 3 3 (Ha_ (Sv.ix (j:=(uj:Int)) (SR.sv k9 e4)) (Hl_ 7 (ql 3 0 (hc0 (vI (pP uj))) V V) (Ha_ (Sv.ix (j:=((ap.getD k v_).getD uj 0)) (OS.sv bz e4 (i:=2) V)) (Hl_ 9 (ql 4 0 (hc0 (vB (rY ((ap.getD k v_).getD uj 0).toNat))) V V) Hn_))))) e4 V V V fun _=>zi 0 2 (fun o6=>?_) fun o6=>?_
       ·try simp only[BS]at o6
        refine ab ?_;obtain⟨uw,pQ⟩:=Sv.view (SR.sv k9 e4);have wP:=fI (pQ uj);refine bL 5 0 24 28 [] [(24,(sL e1 uo.length e2)),(28,(iI ((ap.getD k v_).getD uj 0)))] (Ha_ (Sv.ix (j:=(uj:Int)) (SR.sv k9 e4)) (Hl_ 4 (ql 3 0 (vI (pQ uj)) V V) Hn_)) (by kernel_rfl) V fun _=>zlo ([((ap.getD k v_).getD uj 0)]:List Int) e4 V (RL.cs ⟨V,by omega⟩ RL.nl) V fun wl xi xw vs q6 pF=>zao 7 k8 pF (OS.sv q6 pF (i:=8) V) V V V M fun p6 qJ tA vt q7 rB=>za (sL p6 (uo++([((ap.getD k v_).getD uj 0)]:List Int)).length qJ) (ah 2 V (wU 1 [] 11 12 [6] [(6,(iI ((uj:Int)+1)))] (vi (n:=(uj:Int)+1)) V fun _=>?_))
        refine pW _ _ _ ?_ ⟨uo++([((ap.getD k v_).getD uj 0)]:List Int),uj+1,p6,qJ,tA,_,(ko),(HS.sub rB (a03 _ _)),q7,⟨V,V,V,V,trivial⟩,V,((j1 M hu).1 X),M⟩;omega
       try simp only[BS]at o6
       refine wU 1 [] 11 12 [6] [(6,(iI ((uj:Int)+1)))] (vi (n:=(uj:Int)+1)) V fun _=>?_
       refine pW _ _ _ ?_ ⟨uo,uj+1,e1,e2,kd,_,(ko),e4,k8,⟨V,V,V,V,trivial⟩,V,((j1 M hu).2 (by simp_all)),M⟩;omega
      refine wT 1 [] 4 4 [31] [(4,(sL e1 uo.length e2))] V fun _=>?_
      obtain⟨vb,qX,rD,rm,uU⟩:=OS.frz k8 e4 (i:=7) V;refine aj ⟨.inr V,_,V,uo,e1,e2,_,(fT (ko) qX),(HS.sub rD (a03 _ _)),rm,V,(by rw[a0i M]at hu;exact hu)⟩
     rintro _ vo ⟨ur,dn,dt,u9,ow,ry,oT,rfl,hur⟩;replace bz:=bz.mono ow;replace il:=il.mono ow;refine za (sL dn ur.length dt) (ah 1 V ?_);refine tl _ _ _ ?_ ⟨s1,s2,ur,dn,dt,cg,dv,d2,ch,d1,ef,_,(fT (fT (fT (fT (fT (n6) kc) l7) l8) pq) ow),(HS.sub ry (a03 _ _)),oT,bz,il,⟨V,V,V,V,V,trivial⟩,V,(by rw[i2,lr];exact qf.set M (Ab _ hrz) (a0e (a1a _ _) Aa)),(hur)⟩;rw[hur,i2,hhw];exact uns_lt2 (hhw▸hrz) M
    refine wU 1 [] 28 29 [4] [(4,(iI ((k:Int)+1)))] (vi (n:=(k:Int)+1)) V fun _=>?_
    refine tk _ _ _ ?_ ⟨i1,k5,k+1,go,b4,b6,h7,f0,f6,_,(fT (fT (n3) k6) n6),g4,f2,hO,⟨V,V,V,V,trivial⟩,V,M,M⟩;omega
   refine wU 1 [] 16 17 [2] [(2,(iI ((b:Int)+1)))] (vi (n:=(b:Int)+1)) V fun _=>?_
   refine tj _ _ _ ?_ ⟨it,l0,b+1,b7,c7,c9,b8,c8,dd,_,(fT (fT (n1) n2) n3),oQ,a9,hM,⟨V,V,trivial⟩,V,M,M⟩;omega
  refine aP ⟨.inl V,_,V,sp,sl,f8,fi,f4,f9,fj,f5,_,(n1),ob,hK,hL,V,(t2)⟩
 rintro _ xP ⟨mo,lp,h5,hH,hV,h6,hI,hW,xE,o8,pe,jw,ka,rfl,hsB⟩;replace hT:=hT.mono o8;replace a5:=a5.mono o8;refine ah 2 V (ab (aY 1 0 44 44 [] [(44,l1)] (Hr_ 0 0 Hn_) pe V V fun _=>zc (ni.rinter_c ex c (HS.call pe) M M a5 hT X) ?_));rintro _ vv ⟨l2,nm,ay,sy,ox,mk,rfl,e5,uP,uO⟩;replace mk:=HS.back pe V mk;replace jw:=jw.mono ox;replace ka:=ka.mono ox;refine za (sL l2 ay.length nm) (ah 2 V ?_);have zW:=(by assumption:ca c=true->InF c ay) hv;have CF:=zW.len;refine ab (aY 2 0 46 47 [] [(47,(iI c.r))] (Hr_ 1 0 Hn_) mk V V fun _=>bd (cQ (v_:LocT) mk V V V V V V V V V ⟨V,by decide⟩ M M) V V ?_);rintro _ vx tB ⟨p7,qK,rfl,q8,rE,_⟩;refine bL 1 3 49 49 [] [(49,(aG [(sL p7 (List.replicate c.r.toNat (v_:LocT)).length qK),(sL none 0 0),(iI 0)]))] Hn_ (by kernel_rfl) V fun _=>zn rE V fun kg vy rF=>sgo 1 5 1 0 [] [] (Hr_ 5 6 Hn_) rF V V fun uH vC pG=>ah 2 V (ab (aY 2 0 50 51 [] [(51,(iI c.r))] (Hr_ 1 0 Hn_) pG V V fun _=>?_))
 refine bd (cQ false pG V V V V V V V V V V M M) V V ?_;rintro _ vE tC ⟨p8,qL,rfl,q9,rG,_⟩;refine za (sL p8 (List.replicate c.r.toNat false).length qL) (ah 3 V (wT 2 [] 1 0 [10] [(10,(iI 0))] V fun _=>ak (fun(mm:Nat) f H'=> ∃(sp:List Bool) (sl:List SpiT) (ll:List LocT) (hd:List Bool) (r:Nat) (ag:Option Addr) (an:Nat) (b9:Fp) (ax:Fp) (N:Option Addr) (a_:Nat) (a4:Fp) (ar:Option Addr) (av:Nat) (a1:Fp) (Z:Option Addr) (aa:Nat) (F':Fz),Fz.le sy F'/\HS (Base.of H []) F' H' [g2,g3,ax,(fP aq [(iI c.m),(iI c.r),(sL a7 c.u.length a8),(sL N sp.length a_),(sL ar sl.length av),(sL ci et.length co)]),a4,a1,(fP kg [(sL Z ll.length aa),(sL none 0 0),(iI 0)]),b9] R/\OS F' (sL ag hd.length an) hd b9/\OS F' (sL N sp.length a_) sp ax/\OS F' (sL ar sl.length av) sl a4/\OS F' (sL Z ll.length aa) ll a1/\aB f [(1,(pT b1 0)),(2,(pT b3 0)),(6,(pT aq 0)),(7,(sL l2 ay.length nm)),(8,(pT kg 0)),(9,(sL ag hd.length an)),(10,(iI (r:Int)))]/\mm=c.r.toNat-r/\(SpF c sp sl)/\(ll.length=c.r.toNat)/\(hd.length=c.r.toNat)/\(ColF c sp ll hd r)/\(r<=c.r.toNat)) _ ⟨mo,lp,List.replicate c.r.toNat (v_:LocT),List.replicate c.r.toNat false,0,p8,qL,tC,h5,hH,hV,h6,hI,hW,tB,p7,qK,_,fR,rG,q9,jw,ka,q8,⟨V,V,V,V,V,V,V,trivial⟩,V,X,o_,o_,(col_0),M⟩ ?_));rintro u0 wG vG ⟨sp,sl,ll,hd,r,ag,an,b9,ax,N,a_,a4,ar,av,a1,Z,aa,p3,ib,ik,aw,E,T,U,py,rfl,i3,hll,hhd,hcl,hr⟩ k3;refine au _ py (fun _=>?_);clear py;replace e5:=e5.mono ib;have xc:=i3.len;have xf:=i3.small vF;refine am 2 V (aU 1 53 56 [] [(56,(.bool (decide ((r:Int)<c.r))))] (Hr_ 2 0 Hn_) ik V V fun _=>zd 5 5 (fun sR=>?_) fun sR=>?_)
 ·have so:Lst ((ay).getD r v_) (Sy (j9 c) r):=zW.row r M;have CK:=Lst.len so yT.1 (fun y h=>(sy_lt2 vF h));have Ac:=kZ so (fun y h=>(sy_lt2 vF h));obtain⟨ux,r0⟩:=Sv.view (OS.sv E ik (i:=2) V);refine aU 1 59 65 [] [(65,(.bool (sp.getD r false)))] (Hr_ 3 3 (Ha_ (Sv.ix (j:=(r:Int)) (OS.sv E ik (i:=2) V)) (Hl_ 6 (ql 4 0 (vB (r0 r)) V V) Hn_))) ik V V fun _=>zi 3 2 (fun ot=>?_) fun ot=>?_
  ·try simp only[BS]at ot
   refine wU 1 [] 57 58 [10] [(10,(iI ((r:Int)+1)))] (vi (n:=(r:Int)+1)) V fun _=>?_
   refine k3 _ _ _ ?_ ⟨sp,sl,ll,hd,r+1,ag,an,b9,ax,N,a_,a4,ar,av,a1,Z,aa,_,(ib),ik,aw,E,T,U,⟨V,V,V,V,V,V,V,trivial⟩,V,(i3),(hll),(hhd),(hcl.skip X),M⟩;omega
  try simp only[BS]at ot
  have yU:=ot;refine wT 3 [] 1 0 [11] [(11,(sL none 0 0))] V fun _=>wT 2 [] 1 0 [12] [(12,(iI 0))] V fun _=>?_
  have rH:=HS.snoc ik;let pm:Fp:=(fP kg [(sL Z ll.length aa),(sL none 0 0),(iI 0)])
  refine ak (fun(mm:Nat) f H'=> ∃(wh:List Int) (m:Nat) (bb:Option Addr) (bl:Nat) (kn:Fp) (F':Fz),Fz.le p3 F'/\HS (Base.of H []) F' H' [g2,g3,ax,(fP aq [(iI c.m),(iI c.r),(sL a7 c.u.length a8),(sL N sp.length a_),(sL ar sl.length av),(sL ci et.length co)]),a4,a1,pm,b9,kn] R/\OS F' (sL bb wh.length bl) wh kn/\aB f [(1,(pT b1 0)),(2,(pT b3 0)),(6,(pT aq 0)),(7,(sL l2 ay.length nm)),(8,(pT kg 0)),(9,(sL ag hd.length an)),(10,(iI (r:Int))),(11,(sL bb wh.length bl)),(12,(iI (m:Int)))]/\mm=5-m/\(m<=5)/\(wh.length<=m)) _ ⟨([]:List Int),0,none,0,[],_,fR,rH,(OS.nil:OS _ (sL none 0 0) ([]:List Int) []),⟨V,V,V,V,V,V,V,V,V,trivial⟩,V,M,(a0d 0)⟩ ?_;rintro u1 wH p4 ⟨wh,m,bb,bl,kn,sC,e3,aA,kl,pz,rfl,hm,hwh⟩ r5;refine au _ pz (fun _=>?_);clear pz;replace e5:=e5.mono e3;replace aw:=aw.mono e3;replace E:=E.mono e3;replace T:=T.mono e3;replace U:=U.mono e3;refine am 2 V (wT 1 [] 66 67 [] [(67,(.bool (decide ((m:Int)<5))))] V fun _=>zd 4 5 (fun sS=>?_) fun sS=>?_)
  ·refine wT 3 [] 1 0 [13] [(13,(iI (-1)))] V fun _=>?_
   obtain⟨uy,pR⟩:=Sv.view (SR.sv e5 aA);have xB:=fL (pR r);refine wrp 2 70 75 [14] [(14,(iI (((ay.getD r v_).length:Int)-1)))] (Ha_ (Sv.ix (j:=(r:Int)) (SR.sv e5 aA)) (Hl_ 3 (ql 22 0 (vL (pR r)) V V) (Ha_ (vi (n:=((ay.getD r v_).length:Int)-1)) Hn_))) (by kernel_rfl) V fun _=>ak (fun(mm:Nat) f H'=> ∃(wz:Int) (iz:Int),H'=p4/\aB f [(1,(pT b1 0)),(2,(pT b3 0)),(6,(pT aq 0)),(7,(sL l2 ay.length nm)),(8,(pT kg 0)),(9,(sL ag hd.length an)),(10,(iI (r:Int))),(11,(sL bb wh.length bl)),(12,(iI (m:Int))),(13,(iI wz)),(14,(iI iz))]/\mm=(iz+1).toNat/\(in64 wz)/\(wz<0->∀j:Nat,iz<(j:Int)->j<((ay).getD r v_).length->¬(hd.getD (((ay).getD r v_).getD j 0).toNat false=true/\(ll.getD (((ay).getD r v_).getD j 0).toNat v_).x=(m:Int)))/\(-1<=iz/\iz<(((ay).getD r v_).length:Int))) _ ⟨(-1),((ay.getD r v_).length:Int)-1,V,⟨V,V,V,V,V,V,V,V,V,V,V,trivial⟩,V,M,(fun _ j h1 h2=>absurd h2 M),M⟩ ?_
   rintro u2 wI p4 ⟨wz,iz,rfl,pA,rfl,hwz,hwf,hiz⟩ pX;refine au _ pA (fun _=>?_);clear pA;refine am 2 V (wT 1 [] 76 77 [] [(77,(.bool (decide ((0:Int)<=iz))))] V fun _=>zd 4 6 (fun sT=>?_) fun sT=>?_)
   ·have CP:=dG Ac (k:=iz.toNat) M;obtain⟨uz,pS⟩:=Sv.view (SR.sv e5 aA);have qT:=fL (pS r);obtain⟨uA,pU⟩:=Sv.view (SR.sv qT aA);have wQ:=fI (pU iz.toNat);refine wrp 2 80 86 [15] [(15,(iI ((ay.getD r v_).getD iz.toNat 0)))] (Ha_ (Sv.ix (j:=(r:Int)) (SR.sv e5 aA)) (Hl_ 3 (ql 22 0 (vL (pS r)) V V) (Ha_ (Sv.ix (j:=iz) (SR.sv qT aA)) (Hl_ 6 (ql 3 0 (vI (pU iz.toNat)) V V) Hn_)))) (by kernel_rfl) V fun _=>?_
    obtain⟨uB,r1⟩:=Sv.view (OS.sv aw aA (i:=7) V);obtain⟨uC,pV⟩:=Sv.view (OS.sv U aA (i:=5) V);have t1:=LocT.fx (pV ((ay.getD r v_).getD iz.toNat 0).toNat);refine wrp 1 87 100 [] [(100,(.bool ((hd.getD ((ay.getD r v_).getD iz.toNat 0).toNat false)&&((ll.getD ((ay.getD r v_).getD iz.toNat 0).toNat v_).x==(m:Int)))))] (Ha_ (Sv.ix (j:=((ay.getD r v_).getD iz.toNat 0)) (OS.sv aw aA (i:=7) V)) (Hl_ 3 (ql 4 0 (vB (r1 ((ay.getD r v_).getD iz.toNat 0).toNat)) V V) (be 6 (fun _=>(ql 29 0 (HS.hc aA (i:=6) V) V V)) (Ha_ (fun(g1:(hd.getD ((ay.getD r v_).getD iz.toNat 0).toNat false)=true)=>(Sv.ix (j:=((ay.getD r v_).getD iz.toNat 0)) (OS.sv U aA (i:=5) V) (by(try simp only[BS]at g1);(first|(dsimp only;omega)|omega)) (by(try simp only[BS]at g1);(first|(dsimp only;omega)|omega)))) (be 10 (fun g1=>(ql 3 1 (LocT.vw (pV ((ay.getD r v_).getD iz.toNat 0).toNat) (by(try simp only[BS]at g1);(first|(dsimp only;omega)|omega))) V V)) Hn_))))) V V fun _=>zi 0 2 (fun ou=>?_) fun ou=>?_
    ·have sU:=ou;try simp only[BS]at sU
     refine wT 2 [] 101 101 [13] [(13,(iI ((ay.getD r v_).getD iz.toNat 0)))] V fun _=>wU 1 [] 78 79 [14] [(14,(iI (iz-1)))] (vi (n:=iz-1)) V fun _=>?_
     refine pX _ _ _ ?_ ⟨((ay.getD r v_).getD iz.toNat 0),iz-1,V,⟨V,V,V,V,V,V,V,V,V,V,V,trivial⟩,V,M,M,M⟩;omega
    have zX:=ou;refine wU 1 [] 78 79 [14] [(14,(iI (iz-1)))] (vi (n:=iz-1)) V fun _=>?_
    refine pX _ _ _ ?_ ⟨wz,iz-1,V,⟨V,V,V,V,V,V,V,V,V,V,V,trivial⟩,V,X,(col_no (P:=fun x=>hd.getD x.toNat false=true/\(ll.getD x.toNat v_).x=(m:Int)) hwf (fun _ _ h=>by rw[h.1,h.2]at zX;simp at zX)),M⟩;omega
   refine wT 1 [] 102 103 [] [(103,(.bool (decide (wz<0))))] V fun _=>zd 1 1 (fun sV=>?_) fun sV=>?_
   ·refine ab (aY 8 0 104 111 [] [(107,(sL ag hd.length an)),(108,(iI (r:Int))),(110,(aG [(.bool false),(iI (m:Int))])),(111,(.pointer (some ⟨sB (sL Z ll.length aa),sO (sL Z ll.length aa)+r *Rp.sz LocT,none⟩)))] (Hr_ 1 6 (Ha_ (Sv.ix (j:=(r:Int)) (OS.sv U aA (i:=5) V)) Hn_)) aA V V fun _=>gf (dm (α:=LocT) (j:=r) (off:=0) (q:=5) (⟨false,(m:Int)⟩:LocT) U aA V V V V V V V V (bg (x:=v_) M) V (st_whole (F:=sC) (Y:=(⟨false,(m:Int)⟩:LocT)) (cl:=[(.bool false),(iI (m:Int))]) ⟨V,by(dsimp only;omega)⟩)) V ?_);rintro _ vM ph ⟨ih,pH,_⟩;have t5:=OS.len' ih;refine bL 1 9 112 112 [] [(112,(.pointer (some ⟨sB (sL ag hd.length an),sO (sL ag hd.length an)+r *Rp.sz Bool,none⟩)))] (Ha_ (Sv.ix (j:=(r:Int)) (OS.sv aw pH (i:=7) V)) Hn_) (by kernel_rfl) V fun _=>gf (dm (α:=Bool) (j:=r) (off:=0) (q:=7) true aw pH V V V V V V V V (bg (x:=false) M) V (by rintro cs rfl;exact⟨a0a V,V⟩)) V ?_
    rintro _ vN pi ⟨dk,mx,_⟩;have t6:=OS.len' dk;refine ah 8 V ?_;obtain⟨uD,r2⟩:=Sv.view (OS.sv dk mx (i:=7) V);refine wrp 1 117 121 [] [(121,(.bool (!((hd.set r true).getD r false))))] (Ha_ (Sv.ix (j:=(r:Int)) (OS.sv dk mx (i:=7) V)) (Hl_ 3 (ql 4 0 (vB (r2 r)) V V) Hn_)) (by kernel_rfl) V fun _=>zi 0 2 (fun l3=>?_) fun l3=>?_
    ·have sW:=l3;try simp only[BS]at sW
     have li:=l3;let qU:Value:=(aG [(iI (r:Int)),(iI 3),(iI 0),(iI 0),(sL bb wh.length bl)])
     refine ab (wTo 4 0 [] 122 125 [] [(122,(pT aq 0)),(125,qU)] V fun _=>?_);obtain⟨sD,kp,rI,rn,uV⟩:=OS.frz kl mx (i:=8) V;replace ih:=ih.mono kp;replace dk:=dk.mono kp;replace E:=E.mono kp;replace T:=T.mono kp;refine zc (R:=fun v H'=> ∃(s1:List Bool) (s2:List SpiT) (hh:Fp) (g6:Option Addr) (ha:Nat) (hj:Fp) (g7:Option Addr) (he:Nat) (F':Fz),Fz.le sD F'/\HS (Base.of H []) F' H' [g2,g3,hh,(fP aq [(iI c.m),(iI c.r),(sL a7 c.u.length a8),(sL g6 s1.length ha),(sL g7 s2.length he),(sL ci et.length co)]),hj,ph,pm,pi,[]] R/\OS F' (sL g6 s1.length ha) s1 hh/\OS F' (sL g7 s2.length he) s2 hj/\v= .tuple #[]/\(s1=(sp).set ((r:Int)).toNat true)/\(s2=sl++[(⟨(r:Int),3,0,0,wh⟩:SpiT)])) ?_ ?_
     ·refine aC Tryz.func59 V V (am 1 V (ab (bd (aR rI V V) V V ?_)));rintro _ vP _ ⟨wu,rfl,mI,_⟩;refine ah 2 V (aL V (eO 7 4 10 [] [(10,(.pointer (some ⟨sB (sL N sp.length a_),sO (sL N sp.length a_)+r *Rp.sz Bool,none⟩)))] (Hr_ 3 3 (Hr_ 5 9 (Ha_ (Sv.ix (j:=(r:Int)) (OS.sv E mI (i:=2) V)) Hn_))) mI V V fun _=>gP (id:= .x (ax.map Prod.fst)) (dm (α:=Bool) (j:=r) (off:=0) (q:=2) true E mI.log0 V V V V V V V V (bg (x:=false) M) V (by rintro cs rfl;exact⟨a0a V,V⟩)) V (by rintro _ _ qR ⟨oI,_,hwr⟩;exact dC V V (Wr.did hwr)) (kb V) ?_));rintro _ sH qR ⟨oI,kz,_⟩ r8 qr;replace kz:=HS.lg kz mI qr;generalize ({sH with log:=r8}:Heap)=uk at kz⊢;have t7:=OS.len' oI;refine bC 1 V (aL V (eO 6 11 16 [] [(11,(pT aq 0)),(15,(sL ar sl.length av)),(16,qU)] (Hr_ 4 3 (Hr_ 5 9 Hn_)) kz V V fun _=>zld ([(⟨(r:Int),3,0,0,wh⟩:SpiT)]:List SpiT) kz V (RL.cs ⟨bb,bl,V,by(dsimp only;omega),by(dsimp only;omega),by(dsimp only;omega),by(dsimp only;omega),rn⟩ RL.nl) V fun wn xj xx ul rc pI=>zad 4 T pI (OS.sv rc pI (i:=10) V) V V V M (kb V) fun sM tp tD um re rK=>sdo 3 19 20 [] [] (Hr_ 10 3 Hn_) rK V V fun uI vQ rL=>?_));refine bC 0 V (aP ⟨.inl V,_,V,sp.set r true,sl++([(⟨(r:Int),3,0,0,wh⟩:SpiT)]:List SpiT),qR,N,a_,tD,sM,tp,_,fR,(by(simpa only[a0h] using(HS.sub rL (a03 _ _)))),(OS.norm oI),re,V,m_,m_⟩)
     rintro _ vO ⟨s1,s2,hh,g6,ha,hj,g7,he,vc,oD,rJ,oU,oV,rfl,i2,lr⟩;replace ih:=ih.mono oD;replace dk:=dk.mono oD;refine ah 2 V (wU 1 [] 57 58 [10] [(10,(iI ((r:Int)+1)))] (vi (n:=(r:Int)+1)) V fun _=>?_);refine k3 _ _ _ ?_ ⟨s1,s2,ll.set r (⟨false,(m:Int)⟩:LocT),hd.set r true,r+1,ag,an,pi,hh,g6,ha,hj,g7,he,ph,Z,aa,_,(fT (fT (fT (ib) e3) kp) oD),(by(simpa only[a0h] using(HS.sub rJ (a03 _ _)))),(OS.norm dk),oU,oV,(OS.norm ih),(agC V (agC V (agC V (agC V (agC V (agC (show Value.slice ag hd.length an=Value.slice ag (hd.set r true).length an by rw[OS.len' dk]) ⟨V,trivial⟩)))))),V,(by(rw[i2,lr];exact i3.set M yU (by dsimp only;omega))),(by(simp only[a0h];exact hll)),(by(simp only[a0h];exact hhd)),(by(exfalso;rw[(dS (sp:=hd) (i:=r) (j:=r)).2 (.inl ⟨V,by omega⟩)]at li;cases li;done)),M⟩;omega
    have li:=l3;refine wU 1 [] 57 58 [10] [(10,(iI ((r:Int)+1)))] (vi (n:=(r:Int)+1)) V fun _=>?_
    refine k3 _ _ _ ?_ ⟨sp,sl,ll.set r (⟨false,(m:Int)⟩:LocT),hd.set r true,r+1,ag,an,pi,ax,N,a_,a4,ar,av,ph,Z,aa,_,(fT (ib) e3),(by(simpa only[a0h] using(HS.sub mx (a03 _ _)))),(OS.norm dk),E,T,(OS.norm ih),(agC V (agC V (agC V (agC V (agC V (agC (show Value.slice ag hd.length an=Value.slice ag (hd.set r true).length an by rw[OS.len' dk]) ⟨V,trivial⟩)))))),V,(i3),(by(simp only[a0h];exact hll)),(by(simp only[a0h];exact hhd)),(hcl.put vF yU M M M (col_free so hwf M M)),M⟩;omega
   refine ab (wTo 2 0 [] 113 114 [] [(113,(sL bb wh.length bl)),(114,(iI wz))] V fun _=>zlo ([wz]:List Int) aA V (RL.cs ⟨V,by omega⟩ RL.nl) V fun wq xk xy vR rf pJ=>zao 8 kl pJ (OS.sv rf pJ (i:=9) V) V V V M fun p9 qM tE vT rg rM=>za (sL p9 (wh++([wz]:List Int)).length qM) (ah 2 V ?_));refine wU 1 [] 68 69 [12] [(12,(iI ((m:Int)+1)))] (vi (n:=(m:Int)+1)) V fun _=>?_
   refine r5 _ _ _ ?_ ⟨wh++([wz]:List Int),m+1,p9,qM,tE,_,(e3),(HS.sub rM (a03 _ _)),rg,⟨V,V,V,V,V,V,V,V,V,trivial⟩,V,M,(by rw[a01,a0j];omega)⟩;omega
  obtain⟨uE,r3⟩:=Sv.view (OS.sv aw aA (i:=7) V);refine wrp 1 117 121 [] [(121,(.bool (!(hd.getD r false))))] (Ha_ (Sv.ix (j:=(r:Int)) (OS.sv aw aA (i:=7) V)) (Hl_ 3 (ql 4 0 (vB (r3 r)) V V) Hn_)) (by kernel_rfl) V fun _=>zi 0 2 (fun l4=>?_) fun l4=>?_
  ·have sX:=l4;try simp only[BS]at sX
   have li:=l4;let qV:Value:=(aG [(iI (r:Int)),(iI 3),(iI 0),(iI 0),(sL bb wh.length bl)])
   refine ab (wTo 4 0 [] 122 125 [] [(122,(pT aq 0)),(125,qV)] V fun _=>?_);obtain⟨sE,kr,rO,rp,uW⟩:=OS.frz kl aA (i:=8) V;replace aw:=aw.mono kr;replace E:=E.mono kr;replace T:=T.mono kr;replace U:=U.mono kr;refine zc (R:=fun v H'=> ∃(s1:List Bool) (s2:List SpiT) (hl:Fp) (g8:Option Addr) (hf:Nat) (hn:Fp) (g9:Option Addr) (hg:Nat) (F':Fz),Fz.le sE F'/\HS (Base.of H []) F' H' [g2,g3,hl,(fP aq [(iI c.m),(iI c.r),(sL a7 c.u.length a8),(sL g8 s1.length hf),(sL g9 s2.length hg),(sL ci et.length co)]),hn,a1,pm,b9,[]] R/\OS F' (sL g8 s1.length hf) s1 hl/\OS F' (sL g9 s2.length hg) s2 hn/\v= .tuple #[]/\(s1=(sp).set ((r:Int)).toNat true)/\(s2=sl++[(⟨(r:Int),3,0,0,wh⟩:SpiT)])) ?_ ?_
   ·refine aC Tryz.func59 V V (am 1 V (ab (bd (aR rO V V) V V ?_)));rintro _ vW _ ⟨wv,rfl,m0,_⟩;refine ah 2 V (aL V (eO 7 4 10 [] [(10,(.pointer (some ⟨sB (sL N sp.length a_),sO (sL N sp.length a_)+r *Rp.sz Bool,none⟩)))] (Hr_ 3 3 (Hr_ 5 9 (Ha_ (Sv.ix (j:=(r:Int)) (OS.sv E m0 (i:=2) V)) Hn_))) m0 V V fun _=>gP (id:= .x (ax.map Prod.fst)) (dm (α:=Bool) (j:=r) (off:=0) (q:=2) true E m0.log0 V V V V V V V V (bg (x:=false) M) V (by rintro cs rfl;exact⟨a0a V,V⟩)) V (by rintro _ _ qS ⟨oJ,_,hwr⟩;exact dC V V (Wr.did hwr)) (kb V) ?_));rintro _ sI qS ⟨oJ,k0,_⟩ r9 qs;replace k0:=HS.lg k0 m0 qs;generalize ({sI with log:=r9}:Heap)=un at k0⊢;have t8:=OS.len' oJ;refine bC 1 V (aL V (eO 6 11 16 [] [(11,(pT aq 0)),(15,(sL ar sl.length av)),(16,qV)] (Hr_ 4 3 (Hr_ 5 9 Hn_)) k0 V V fun _=>zld ([(⟨(r:Int),3,0,0,wh⟩:SpiT)]:List SpiT) k0 V (RL.cs ⟨bb,bl,V,by(dsimp only;omega),by(dsimp only;omega),by(dsimp only;omega),by(dsimp only;omega),rp⟩ RL.nl) V fun ws xl xz up rh pK=>zad 4 T pK (OS.sv rh pK (i:=10) V) V V V M (kb V) fun sN tq tF uq ri rQ=>sdo 3 19 20 [] [] (Hr_ 10 3 Hn_) rQ V V fun uJ vX rR=>?_));refine bC 0 V (aP ⟨.inl V,_,V,sp.set r true,sl++([(⟨(r:Int),3,0,0,wh⟩:SpiT)]:List SpiT),qS,N,a_,tF,sN,tq,_,fR,(by(simpa only[a0h] using(HS.sub rR (a03 _ _)))),(OS.norm oJ),ri,V,m_,m_⟩)
   rintro _ vV ⟨s1,s2,hl,g8,hf,hn,g9,hg,vd,oF,rP,oW,oX,rfl,i2,lr⟩;replace aw:=aw.mono oF;replace U:=U.mono oF;refine ah 2 V (wU 1 [] 57 58 [10] [(10,(iI ((r:Int)+1)))] (vi (n:=(r:Int)+1)) V fun _=>?_);refine k3 _ _ _ ?_ ⟨s1,s2,ll,hd,r+1,ag,an,b9,hl,g8,hf,hn,g9,hg,a1,Z,aa,_,(fT (fT (fT (ib) e3) kr) oF),(HS.sub rP (a03 _ _)),aw,oW,oX,U,⟨V,V,V,V,V,V,V,trivial⟩,V,(by(rw[i2,lr];exact i3.set M yU (by dsimp only;omega))),(hll),(hhd),(by(rw[i2];exact hcl.spill M)),M⟩;omega
  have li:=l4;refine wU 1 [] 57 58 [10] [(10,(iI ((r:Int)+1)))] (vi (n:=(r:Int)+1)) V fun _=>?_
  refine k3 _ _ _ ?_ ⟨sp,sl,ll,hd,r+1,ag,an,b9,ax,N,a_,a4,ar,av,a1,Z,aa,_,(fT (ib) e3),(HS.sub aA (a03 _ _)),aw,E,T,U,⟨V,V,V,V,V,V,V,trivial⟩,V,(i3),(hll),(hhd),(absurd (hcl.had r (by simpa using li)).1 (a23 _)),M⟩;omega
 refine sgr 3 127 129 [] [] (Hr_ 1 0 (Hr_ 3 6 Hn_)) ik V V fun uK vY rS=>wT 2 [] 1 0 [16] [(16,(iI 0))] V fun _=>ak (fun(mm:Nat) f H'=> ∃(lf:List LocT) (sz:Int) (rr:Nat) (ht:Fp) (a2:Option Addr) (a3:Nat) (F':Fz),Fz.le p3 F'/\HS (Base.of H []) F' H' [g2,g3,ax,(fP aq [(iI c.m),(iI c.r),(sL a7 c.u.length a8),(sL N sp.length a_),(sL ar sl.length av),(sL ci et.length co)]),a4,ht,(fP kg [(sL a2 lf.length a3),(sL none 0 0),(iI sz)]),b9] R/\OS F' (sL a2 lf.length a3) lf ht/\aB f [(1,(pT b1 0)),(2,(pT b3 0)),(6,(pT aq 0)),(8,(pT kg 0)),(16,(iI (rr:Int)))]/\mm=c.r.toNat-rr/\(lf.length=c.r.toNat)/\(c.m<=sz/\sz<=c.m+rr)/\(FinF c sp ll lf sz rr)/\(rr<=c.r.toNat)) _ ⟨ll,c.m,0,a1,Z,aa,_,fR,rS,U,⟨V,V,V,V,V,trivial⟩,V,M,M,(fin_0),M⟩ ?_
 rintro u4 wJ vZ ⟨lf,sz,rr,ht,a2,a3,sF,kx,g5,cc,pB,rfl,hlf,hsz,hff,zY⟩ pY;refine au _ pB (fun _=>?_);clear pB;replace E:=E.mono kx;replace T:=T.mono kx;have xe:=i3.len;refine am 2 V (aU 1 130 133 [] [(133,(.bool (decide ((rr:Int)<c.r))))] (Hr_ 2 0 Hn_) g5 V V fun _=>zd 4 5 (fun sY=>?_) fun sY=>?_)
 ·obtain⟨uF,r4⟩:=Sv.view (OS.sv E g5 (i:=2) V);refine aU 1 136 142 [] [(142,(.bool (sp.getD rr false)))] (Hr_ 3 3 (Ha_ (Sv.ix (j:=(rr:Int)) (OS.sv E g5 (i:=2) V)) (Hl_ 6 (ql 4 0 (vB (r4 rr)) V V) Hn_))) g5 V V fun _=>zi 1 2 (fun o7=>?_) fun o7=>?_
  ·try simp only[BS]at o7
   refine ab (aY 7 0 143 149 [] [(148,(aG [(.bool true),(iI sz)])),(149,(.pointer (some ⟨sB (sL a2 lf.length a3),sO (sL a2 lf.length a3)+rr *Rp.sz LocT,none⟩)))] (Hr_ 1 6 (Hr_ 4 6 (Ha_ (Sv.ix (j:=(rr:Int)) (OS.sv cc g5 (i:=5) V)) Hn_))) g5 V V fun _=>gf (dm (α:=LocT) (j:=rr) (off:=0) (q:=5) (⟨true,sz⟩:LocT) cc g5 V V V V V V V V (bg (x:=v_) M) V (st_whole (F:=sF) (Y:=(⟨true,sz⟩:LocT)) (cl:=[(.bool true),(iI sz)]) ⟨V,by(dsimp only;omega)⟩)) V ?_);rintro _ v0 tG ⟨pC,rU,_⟩;have t9:=OS.len' pC;refine ah 1 V (sgr 2 150 153 [] [] (Hr_ 1 6 (Ha_ (vi (n:=sz+1)) (Hr_ 4 6 Hn_))) rU V V fun uL v1 rV=>wU 1 [] 134 135 [16] [(16,(iI ((rr:Int)+1)))] (vi (n:=(rr:Int)+1)) V fun _=>?_);refine pY _ _ _ ?_ ⟨lf.set rr (⟨true,sz⟩:LocT),sz+1,rr+1,tG,a2,a3,_,(kx),(by(simpa only[a0h] using rV)),(OS.norm pC),⟨V,V,V,V,V,trivial⟩,V,(by(rw[a0h];exact hlf)),M,(hff.put X M M),M⟩;omega
  try simp only[BS]at o7
  refine wU 1 [] 134 135 [16] [(16,(iI ((rr:Int)+1)))] (vi (n:=(rr:Int)+1)) V fun _=>?_
  refine pY _ _ _ ?_ ⟨lf,sz,rr+1,ht,a2,a3,_,(kx),g5,cc,⟨V,V,V,V,V,trivial⟩,V,(hlf),M,(hff.skip X),M⟩;omega
 obtain⟨vf,pu,rW,oK,uX⟩:=OS.frz T g5 (i:=4) V;replace cc:=cc.mono pu;refine sgr 3 154 158 [] [] (Hr_ 3 3 (Hr_ 5 6 Hn_)) rW V V fun uM v3 pL=>aU 1 159 161 [] [(161,(.bool (decide ((3000:Int)<sz))))] (Hr_ 1 6 Hn_) pL V V fun _=>bW 2 (v:=(decide ((3000:Int)<sz))) V l_ V V (sgr 1 3 3 [163] [(3,(iI 0))] (Hr_ 0 6 (Hr_ 1 1 Hn_)) pL V V fun uN v9 pM=>?_)
 obtain⟨vg,pw,rX,rq,uY⟩:=OS.frz cc pM (i:=5) V;replace oK:=oK.mono pw;refine aj ⟨.inr V,_,(rC V (ldVN V V (i_ pM V) V) (rT V rN)),(⟨lf,sl,sz⟩:AllT),a2,a3,ar,av,0,_,(fT (fT (fT (fT (fT (fT (fT (fT (fT (qg) qh) oy) oz) o8) ox) ib) kx) pu) pw),(HS.forget rX),V,M,rq,oK,m_,(hlf),(i3.small vF),(i3.oth),(snd_fin vF hv hz i3 hcl hff M M hlf M M V V)⟩
end rl
end Go.Proofs.YtgdggmlghemecaaGreatDoor
