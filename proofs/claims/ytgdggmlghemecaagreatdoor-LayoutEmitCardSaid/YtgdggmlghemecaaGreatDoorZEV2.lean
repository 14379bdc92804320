/-
Symbolic runs of the code that the law reaches, part 3. No condition but bounds on lengths.
-/
import Derived.Test.YtgdggmlghemecaaGreatDoorZEV1
noncomputable section
namespace Go.Proofs.YtgdggmlghemecaaGreatDoor
open Go.R
open Inhabited renaming default→v_
set_option maxRecDepth 10000
set_option maxHeartbeats 16000000
set_option linter.unusedVariables false
set_option linter.unusedSimpArgs false
open m1 m2 m3 m4 m5 m6 m7 m8 ma ml mb mc md mf mg mh mi mj na nb nc ni nv nr
namespace nw
variable (ex:FuncId) {F:Fz} {H:Heap} {R:List Fp}
theorem loose_c{a3 a8}(c:VFnT){ao aq}(l:List Int)(hs:Hb H F H [] R)(hz:in64 c.m)(hA:in64 c.r)(a4:Sr F a3 c.u a8)(hl:Sr F ao l aq)(hT:TB 37 tabC F)(hx: ∀j,(c.u.getD j v_).v.length<=1073741822)(hv:cb c=true):kKt ex 10 [(aG [c.m,c.r,(sL a3 c.u.length a8)]),(sL ao l.length aq)] H fun v H'=> ∃(x:AllT),∃b6,∃(dd:Nat),∃b7,∃(dk:Nat),∃F',F.le F'/\Hb H F' H' [] R/\v= .agg ⟨[sL b6 x.l.length dd,sL b7 x.p.length dk,iI x.k]⟩/\in64 x.k/\Sr F' b6 x.l dd/\Sr F' b7 x.p dk/\(x.l.length=c.r.toNat/\x.p=[]):=by
 have vF:=e9 hv;have ez:=vF.r;have i5:=vF.m;refine aB Tryz.func10 V V (am 1 V (ab (aT (aN hs V V) V V ?_)));rintro _ H2 _ ⟨b1,rfl,f9,_⟩;refine zn f9 V fun b3 H4 c5=>ae 2 V (aC V (cN 2 12 13 [] [(13,c.r)] (Hr_ 1 0 Hn_) c5 V V fun _=>eU (id:= .x []) (cS (v_:LocT) c5.log0 V V V V V V V V V ⟨V,by decide⟩ M M) V V (by rintro _ _ p6 ⟨a6,k6,rfl,b4,_,hwr⟩;exact dh V V (Wr.did hwr)) (kb V) ?_))
 rintro _ H7 p6 ⟨a6,k6,rfl,b4,a1,_⟩ go e1;replace a1:=HS.lg a1 c5 e1;generalize ({H7 with log:=go}:Heap)=hK at a1⊢;refine zp 0 (bj (v:=(iI c.m)) (id:= .l b1) (fp (i:=0) V V (HS.hc a1.log0 (i:=0) V) V V) V V (gf V) (⟨.inl V,.inr a0g,q_⟩) (zp 1 (bj (v:=(iI c.r)) (id:= .l b1) (fp (i:=1) V V (HS.hc a1.log0 (i:=0) V) V V) V V (gf V) (⟨.inl V,.inr trivial,.inr trivial,.inr a0g,q_⟩) (cN 2 19 20 [] [(20,(aG [(sL a6 (List.replicate c.r.toNat (v_:LocT)).length k6),N_,(iI (c.m+c.r))]))] (Ha_ (vi (n:=c.m+c.r)) Hn_) a1 V V fun _=>znD a1 V fun b9 g7 e3=>?_))));let d2:Value:=(aG [c.m,c.r,(sL a3 c.u.length a8)])
 refine sdo 1 1 0 [] [] (Hr_ 10 3 Hn_) e3 V V fun hm hF a7=>aW 2 V (aC V (cN 1 21 21 [] [(21,d2)] (Hr_ 0 0 Hn_) a7 V V fun _=>aQ (W:=[]) (aP V V V) V V V (ni.nA ex c (HS.call a7.log0) M M a4 hT X) (kb V) ?_))
 rintro _ f3 ⟨a9,bz,N,hE,av,a_,rfl,Z,hu,hq⟩;refine⟨Wr.did a_.log,fun fj dn=>?_⟩;replace a_:=HS.back a7.log0 V a_;replace a_:=HS.lg a_ a7 dn;generalize ({f3 with log:=fj}:Heap)=g8 at a_⊢;replace hT:=hT.mono av;replace a4:=a4.mono av;refine bj (v:=d2) (id:= .l b1) (gw (i:=0) V V V (HS.hc a_.log0 (i:=0) V) V V V) V V (gf V) (⟨.inr a0g,q_⟩) (aQ (W:=[]) (aP V V V) V V V (mj.rac_c ex c (HS.call a_.log0) M M a4 hT (fun j=>a0e (hx j) M)) (kb V) ?_);rintro _ f4 ⟨bb,b2,a2,f1,aw,ag,rfl,a5,hw,ht⟩;refine⟨Wr.did ag.log,fun f0 ds=>?_⟩;replace ag:=HS.back a_.log0 V ag;replace ag:=HS.lg ag a_ ds;generalize ({f4 with log:=f0}:Heap)=g9 at ag⊢;replace b4:=(b4.mono av).mono aw;refine cN 2 1 0 [6,7] [(6,(sL a9 N.length bz)),(7,(sL bb a2.length b2))] Hn_ ag V V fun _=>aW 3 V ?_
 have et:=(by assumption:cb c=true->InF c N) hv;have i3:=et.len;have i2:=Lst.len ((by assumption:cb c=true->Lst a2 (acS c)) hv) ez.1 (fun r h=>jS vF (a0d _) h);refine wT 2 [] 1 0 [8] [(8,(iI 0))] V fun _=>aj (fun(mm:Nat) f H'=> ∃(ll:List LocT) (r:Nat),∃ap A,∃(E:Nat),∃F',f1.le F'/\Hb H F' H' [(fP b1 [c.m,c.r,(sL a3 c.u.length a8)]),(fP b3 [N_,N_,(iI 0)]),ap,(fP b9 [(sL A ll.length E),N_,(iI (c.m+c.r))])] R/\OZ F' A ll E ap/\aA f [(1,(sL ao l.length aq)),(2,(pT b1 0)),(4,(pT b3 0)),(5,(pT b9 0)),(6,(sL a9 N.length bz)),(7,(sL bb a2.length b2)),(8,(r:Int))]/\mm=c.r.toNat-r/\(ll.length=c.r.toNat)/\(r<=c.r.toNat)) _ ⟨List.replicate c.r.toNat (v_:LocT),0,p6,a6,k6,_,fR,ag,b4,f_,V,o_,M⟩ ?_
 rintro hC hL hG ⟨ll,r,ap,A,E,dt,aa,ax,an,ch,rfl,hlr,hr⟩ bt;refine au _ ch (fun _=>?_);clear ch;replace hT:=(hT.mono aw).mono aa;replace hl:=((hl.mono av).mono aw).mono aa;replace Z:=(Z.mono aw).mono aa;replace a5:=a5.mono aa;refine am 2 V (aU 1 25 28 [] [(28,(decide ((r:Int)<c.r)))] (Hr_ 2 0 Hn_) ax V V fun _=>zd 4 5 (fun f7=>?_) fun f7=>?_)
 ·refine ab (aS 9 0 31 39 [] [(38,(aG [true,(iI (c.m+(r:Int)))])),(39,(.pointer (some ⟨sB (sL A ll.length E),sO (sL A ll.length E)+r *Rp.sz LocT,none⟩)))] (Hr_ 1 3 (Hr_ 4 0 (Ha_ (vi (n:=c.m+(r:Int))) (Ha_ (Sv.ix (j:=(r:Int)) (OS.sv an ax (i:=2) V)) Hn_)))) ax V V fun _=>cL (bW (α:=LocT) (j:=r) (off:=0) (q:=2) (⟨true,c.m+(r:Int)⟩:LocT) an ax V V V V V V V V (aO (x:=v_) M) V (iE (F:=dt) (Y:=(⟨true,c.m+(r:Int)⟩:LocT)) (cl:=[true,(iI (c.m+(r:Int)))]) ⟨V,M⟩)) V ?_);rintro _ f5 d1 ⟨ar,ay,_⟩;have g5:=OS.len' ar;refine ae 3 V (wU 1 [(7,.o (.bool (im a2 (r:Int))))] 40 53 [] [(53,(((decide ((l.length:Int)<=(r:Int)))||im a2 (r:Int))||((N.length:Int)==0)))] (fun(U:(decide ((l.length:Int)<=(r:Int)))=false)=>(m6.cG ex a2 (r:Int) (HS.call ay) a5 (by(try simp only[BS]at U);(first|(dsimp only;omega)|omega)) hT (by(try simp only[BS]at U);(first|(dsimp only;omega)|omega)))) V fun _=>zi 3 2 (fun b8=>?_) fun b8=>?_)
  ·try simp only[BS]at b8
   refine wU 1 [] 29 30 [8] [(8,(iI ((r:Int)+1)))] (vi (n:=(r:Int)+1)) V fun _=>?_
   refine bt _ _ _ ?_ ⟨ll.set r (⟨true,c.m+(r:Int)⟩:LocT),r+1,d1,A,E,_,(aa),(by(simp only[a0f];exact ay)),(OS.norm ar),f_,V,(by simp only[a0f];exact hlr),M⟩;omega
  try simp only[BS]at b8
  have i4:=dF (l.getD r 0) 8 M;have a0:Lst ((N).getD r v_) (Sy (lW c) r):=et.row r M;have h5:=g0 a0 (fun y h=>jC vF h);have ja:=Lst.len a0 ez.1 (fun y h=>jC vF h);refine ab ?_;obtain⟨hb,c7⟩:=Sv.view (SR.sv hl ay);have hO:=fI (c7 r);have hj:=dF (l.getD r 0) (8:Int);let em:Value:=(aG [false,(bh (l.getD r 0) (8:Int))])
  refine bK 6 0 54 59 [] [(59,em)] (Ha_ (Sv.ix (j:=(r:Int)) (SR.sv hl ay)) (Hl_ 3 (ql 3 0 (vI (c7 r)) V V) (Hc_ 4 (m1.eP ex (l.getD r 0) (8) f5 M) Hn_))) K_ V fun _=>zn ay V fun f6 hH e4=>sgo 1 7 1 0 [] [] (Hr_ 7 4 Hn_) e4 V V fun hn dv T=>ae 2 V (aU 3 60 62 [10] [(10,(decide (bh (l.getD r 0) (8:Int)<5)))] (Hr_ 1 4 Hn_) T V V fun _=>wT 2 [] 1 0 [11] [(11,(iI 0))] V fun _=>?_)
  refine aj (fun(mm:Nat) f H'=> ∃(fr:Bool) (k:Nat),H'=dv/\aA f [(1,(sL ao l.length aq)),(2,(pT b1 0)),(4,(pT b3 0)),(5,(pT b9 0)),(6,(sL a9 N.length bz)),(7,(sL bb a2.length b2)),(8,(r:Int)),(9,(pT f6 0)),(10,fr),(11,(k:Int))]/\mm=((N).getD r v_).length-k/\(k<=((N).getD r v_).length)) _ ⟨(decide (bh (l.getD r 0) (8:Int)<5)),0,V,f_,V,M⟩ ?_;rintro hD hM dv ⟨fr,k,rfl,ci,rfl,hk⟩ fd;refine au _ ci (fun _=>?_);clear ci;refine am 2 V ?_;obtain⟨he,c8⟩:=Sv.view (SR.sv Z T);have hQ:=fL (c8 r);refine wrp 1 63 69 [] [(69,(decide ((k:Int)<((N.getD r v_).length:Int))))] (Ha_ (Sv.ix (j:=(r:Int)) (SR.sv Z T)) (Hl_ 4 (ql 22 0 (vL (c8 r)) V V) Hn_)) K_ V fun _=>zd 3 5 (fun f8=>?_) fun f8=>?_
  ·have jb:=dm h5 (k:=k) M;obtain⟨hf,bk⟩:=Sv.view (SR.sv Z T);have dl:=fL (bk r);obtain⟨hg,bl⟩:=Sv.view (SR.sv dl T);have hP:=fI (bl k);obtain⟨hh,c9⟩:=Sv.view (OS.sv ar T (i:=2) V);have g4:=LocT.fx (c9 ((N.getD r v_).getD k 0).toNat);refine wrDp 2 72 98 [10] [(10,(fr&&((decide ((r:Int)<((N.getD r v_).getD k 0)))||(!(((((ll.set r (⟨true,c.m+(r:Int)⟩:LocT)).getD ((N.getD r v_).getD k 0).toNat v_).inS)==false)&&(((((ll.set r (⟨true,c.m+(r:Int)⟩:LocT)).getD ((N.getD r v_).getD k 0).toNat v_).x)==(bh (l.getD r 0) (8:Int)))&&true))))))] (Ha_ (fun(U:fr=true)=>(Sv.ix (j:=(r:Int)) (SR.sv Z T) (by(try simp only[BS]at U);(first|(dsimp only;omega)|omega)) (by(try simp only[BS]at U);(first|(dsimp only;omega)|omega)))) (bp 5 (fun U=>(ql 22 0 (hc0 (vL (bk r) (by(try simp only[BS]at U);(first|(dsimp only;omega)|omega)))) V V)) (Ha_ (fun(U:fr=true)=>(Sv.ix (j:=(k:Int)) (SR.sv dl T) (by(try simp only[BS]at U);(first|(dsimp only;omega)|omega)) (by(try simp only[BS]at U);(first|(dsimp only;omega)|omega)))) (bp 8 (fun U=>(ql 3 0 (hc0 (vI (bl k) (by(try simp only[BS]at U);(first|(dsimp only;omega)|omega)))) V V)) (iu 13 (fun _ _=>(ql 29 0 (hc0 (HS.hc T (i:=3) V)) V V)) (Ha_ (fun(U:(decide ((r:Int)<((N.getD r v_).getD k 0)))=false) (g2:fr=true)=>(Sv.ix (j:=(r:Int)) (SR.sv Z T) (by(try simp only[BS]at U g2);(first|(dsimp only;omega)|omega)) (by(try simp only[BS]at U g2);(first|(dsimp only;omega)|omega)))) (iu 17 (fun U g2=>(ql 22 0 (hc0 (vL (bk r) (by(try simp only[BS]at U g2);(first|(dsimp only;omega)|omega)))) V V)) (Ha_ (fun(U:(decide ((r:Int)<((N.getD r v_).getD k 0)))=false) (g2:fr=true)=>(Sv.ix (j:=(k:Int)) (SR.sv dl T) (by(try simp only[BS]at U g2);(first|(dsimp only;omega)|omega)) (by(try simp only[BS]at U g2);(first|(dsimp only;omega)|omega)))) (iu 20 (fun U g2=>(ql 3 0 (hc0 (vI (bl k) (by(try simp only[BS]at U g2);(first|(dsimp only;omega)|omega)))) V V)) (Ha_ (fun(U:(decide ((r:Int)<((N.getD r v_).getD k 0)))=false) (g2:fr=true)=>(Sv.ix (j:=((N.getD r v_).getD k 0)) (OS.sv ar T (i:=2) V) (by(try simp only[BS]at U g2);(first|(dsimp only;omega)|omega)) (by(try simp only[BS]at U g2);(first|(dsimp only;omega)|omega)))) (iu 22 (fun U g2=>(qn 39 0 2 (hc0 (LocT.vw (c9 ((N.getD r v_).getD k 0).toNat) (by(try simp only[BS]at U g2);(first|(dsimp only;omega)|omega)))) V V V V)) (iu 23 (fun _ _=>(qn 39 0 2 (hc0 (HS.hc T (i:=4) V)) V V V V)) (Ho_ 24 (.o (.bool (!(((((ll.set r (⟨true,c.m+(r:Int)⟩:LocT)).getD ((N.getD r v_).getD k 0).toNat v_).inS)==false)&&(((((ll.set r (⟨true,c.m+(r:Int)⟩:LocT)).getD ((N.getD r v_).getD k 0).toNat v_).x)==(bh (l.getD r 0) (8:Int)))&&true))))) (fun(U:(decide ((r:Int)<((N.getD r v_).getD k 0)))=false) (g2:fr=true)=>(agNe (P:=Tryz.prog) (t:=39) (xs:=[(((ll.set r (⟨true,c.m+(r:Int)⟩:LocT)).getD ((N.getD r v_).getD k 0).toNat v_).inS),(((ll.set r (⟨true,c.m+(r:Int)⟩:LocT)).getD ((N.getD r v_).getD k 0).toNat v_).x)]) (ys:=[false,(bh (l.getD r 0) (8:Int))]) (bs:=[((((ll.set r (⟨true,c.m+(r:Int)⟩:LocT)).getD ((N.getD r v_).getD k 0).toNat v_).inS)==false),((((ll.set r (⟨true,c.m+(r:Int)⟩:LocT)).getD ((N.getD r v_).getD k 0).toNat v_).x)==(bh (l.getD r 0) (8:Int)))]) V V V K_ K_ (.cons ⟨by decide,_,_,V,V,eqB V⟩ (.cons ⟨by decide,_,_,V,V,eqI V⟩ .nil)))) Hn_))))))))))))) V V V fun _=>wU 1 [] 70 71 [11] [(11,(iI ((k:Int)+1)))] (vi (n:=(k:Int)+1)) V fun _=>?_
   refine fd _ _ _ ?_ ⟨(fr&&((decide ((r:Int)<((N.getD r v_).getD k 0)))||(!(((((ll.set r (⟨true,c.m+(r:Int)⟩:LocT)).getD ((N.getD r v_).getD k 0).toNat v_).inS)==false)&&(((((ll.set r (⟨true,c.m+(r:Int)⟩:LocT)).getD ((N.getD r v_).getD k 0).toNat v_).x)==(bh (l.getD r 0) (8:Int)))&&true))))),k+1,V,f_,V,M⟩;omega
  refine wT 1 [] 99 99 [] [(99,fr)] V fun _=>zi 0 2 (fun cc=>?_) fun cc=>?_
  ·try simp only[BS]at cc
   refine ab (aS 5 0 100 104 [] [(103,em),(104,(.pointer (some ⟨sB (sL A ll.length E),sO (sL A ll.length E)+r *Rp.sz LocT,none⟩)))] (Hr_ 1 3 (Hr_ 3 4 (Ha_ (Sv.ix (j:=(r:Int)) (OS.sv ar T (i:=2) V)) Hn_))) T V V fun _=>cL (bW (α:=LocT) (j:=r) (off:=0) (q:=2) (⟨false,bh (l.getD r 0) (8:Int)⟩:LocT) ar T V V V V V V V V (aO (x:=v_) M) V (iE (F:=dt) (Y:=(⟨false,bh (l.getD r 0) (8:Int)⟩:LocT)) (cl:=[false,(bh (l.getD r 0) (8:Int))]) ⟨V,M⟩)) V ?_);rintro _ hI gt ⟨co,e5,_⟩;have g6:=OS.len' co;refine ae 2 V (wU 1 [] 29 30 [8] [(8,(iI ((r:Int)+1)))] (vi (n:=(r:Int)+1)) V fun _=>?_);refine bt _ _ _ ?_ ⟨(ll.set r (⟨true,c.m+(r:Int)⟩:LocT)).set r (⟨false,bh (l.getD r 0) (8:Int)⟩:LocT),r+1,gt,A,E,_,(aa),(by(simpa only[a0f] using(HS.sub e5 (a01 _ _)))),(OS.norm co),f_,V,(by simp only[a0f];exact hlr),M⟩;omega
  try simp only[BS]at cc
  refine wU 1 [] 29 30 [8] [(8,(iI ((r:Int)+1)))] (vi (n:=(r:Int)+1)) V fun _=>?_
  refine bt _ _ _ ?_ ⟨ll.set r (⟨true,c.m+(r:Int)⟩:LocT),r+1,d1,A,E,_,(aa),(by(simpa only[a0f] using(HS.sub T (a01 _ _)))),(OS.norm ar),f_,V,(by simp only[a0f];exact hlr),M⟩;omega
 refine sgr 1 105 105 [] [] (Hr_ 0 3 (Hr_ 1 1 Hn_)) ax V V fun hp hJ c6=>?_
 obtain⟨f2,e0,e6,e2,hB⟩:=OS.frz an c6 (i:=2) V;refine ak ⟨.inr V,_,(rC V (l7 V V (i_ c6 V) V) rN),(⟨ll,([]:List SpiT),c.m+c.r⟩:AllT),A,E,none,0,_,(fT (fT (fT (av) aw) aa) e0),(HS.forget e6),V,M,e2,(SR.nil:SR f2 N_ ([]:List SpiT)),(⟨hlr,V⟩)⟩
end nw
open nw
namespace xa
variable (ex:FuncId) {F:Fz} {H:Heap} {R:List Fp}
def eQ(to:Int)(b:Bool)(x:Int):List InsT:=if b=true then [⟨36,to,0,0,x⟩] else if x=to then [] else [⟨10,to,x,0,0⟩]
def savV(b:Bool)(x:Int):List InsT:=if b=true then [⟨37,0,0,0,x⟩] else if x=0 then [] else [⟨10,x,0,0,0⟩]
def eX(b:Bool)(x s:Int):Int:=if b=true then s else x
abbrev atV(l:List LocT)(n:Int):LocT:=l.getD n.toNat v_
def jX(l:List LocT)(a:List Int):Nat->List InsT
 |0=> []
 |k+1=>jX l a k++eQ (k:Int) (atV l (a.getD k 0)).inS (atV l (a.getD k 0)).x
def rngV(v:VInT)(n:Nat):Prop:= ∀x∈aE v++ah v,0<=x/\x<(n:Int)
instance {v:VInT} {n:Nat}:Decidable (rngV v n):=inferInstanceAs (Decidable (∀x∈_,_))
def opV(i:InsT):Int:=if i.op=38 then 36 else if i.op=13/\(i.n< -4194304\/4194304<=i.n) then 14 else i.op
def slA(f:InfT)(i:InsT)(l:List LocT):LocT:=if f.ra=true\/f.wa=true then atV l i.a else v_
def oA(f:InfT)(i:InsT)(l:List LocT):Int:=if f.ra=true\/f.wa=true then eX (atV l i.a).inS (atV l i.a).x 5 else 0
def oB(f:InfT)(i:InsT)(l:List LocT):Int:=if f.rb=true then eX (atV l i.b).inS (atV l i.b).x 6 else 0
def oC(f:InfT)(i:InsT)(l:List LocT):Int:=if f.f=4 then eX (atV l i.c).inS (atV l i.c).x 7 else 0
def oN(f:InfT)(i:InsT):Int:=if f.f=5\/f.f=7 then i.n else 0
def aV(f:InfT)(i:InsT)(l:List LocT):List InsT:=if f.ra=true/\(atV l i.a).inS=true then [⟨36,5,0,0,(atV l i.a).x⟩] else []
def bV(f:InfT)(i:InsT)(l:List LocT):List InsT:=if f.rb=true/\(atV l i.b).inS=true then [⟨36,6,0,0,(atV l i.b).x⟩] else []
def cV(f:InfT)(i:InsT)(l:List LocT):List InsT:=if f.f=4/\(atV l i.c).inS=true then [⟨36,7,0,0,(atV l i.c).x⟩] else []
def wV(f:InfT)(i:InsT)(l:List LocT):List InsT:=if f.wa=true/\(atV l i.a).inS=true then [⟨37,5,0,0,(atV l i.a).x⟩] else []
def jf(f:InfT)(i:InsT)(l:List LocT):List InsT:=((aV f i l++bV f i l)++cV f i l)++[⟨opV i,oA f i l,oB f i l,oC f i l,oN f i⟩]++wV f i l
def movV(i:InsT)(l:List LocT):List InsT:=if atV l i.a=atV l i.b then [] else if(atV l i.b).inS=true/\(atV l i.a).inS=false then [⟨36,(atV l i.a).x,0,0,(atV l i.b).x⟩] else if(atV l i.a).inS=true/\(atV l i.b).inS=false then [⟨37,(atV l i.b).x,0,0,(atV l i.a).x⟩] else jf (aD i.op) i l
def lY(v:VInT)(l:List LocT):List InsT:=
 if alV v.i.op=true/\rngV v l.length then
  if v.i.op=6 then jX l v.args v.args.length++[⟨6,(v.args.length:Int),0,0,v.i.n⟩]++savV (atV l v.i.a).inS (atV l v.i.a).x
  else if v.i.op=10 then movV v.i l else jf (aD v.i.op) v.i l
 else []
theorem fet1{l}{to x:Int}{b}(h:b=true):l++[⟨36,to,0,0,x⟩]=l++eQ to b x:=by unfold eQ;rw[if_pos h]
theorem fet2{l}{to x:Int}{b}(h:b=false)(A:x≠to):l++[⟨10,to,x,0,0⟩]=l++eQ to b x:=by unfold eQ;rw[if_neg (by simp[h]),if_neg A]
theorem fet0{l}{to x:Int}{b}(h:b=false)(A:x=to):l=l++eQ to b x:=by unfold eQ;rw[if_neg (by simp[h]),if_pos A,a0p]
theorem sav1{l}{x:Int}{b}(h:b=true):l++[⟨37,0,0,0,x⟩]=l++savV b x:=by unfold savV;rw[if_pos h]
theorem sav2{l}{x:Int}{b}(h:b=false)(A:x≠0):l++[⟨10,x,0,0,0⟩]=l++savV b x:=by unfold savV;rw[if_neg (by simp[h]),if_neg A]
theorem sav0{l}{x:Int}{b}(h:b=false)(A:x=0):l=l++savV b x:=by unfold savV;rw[if_neg (by simp[h]),if_pos A,a0p]
theorem fH{to x:Int}{b}:(eQ to b x).length<=1:=by unfold eQ;split<;>(try split)<;>simp
theorem kB{l a}: ∀k,(jX l a k).length<=k
 |0=>a0d _
 |k+1=>by have:=kB (l:=l) (a:=a) k;have:=fH (to:=(k:Int)) (b:=(atV l (a.getD k 0)).inS) (x:=(atV l (a.getD k 0)).x);unfold jX;rw[a02];omega
theorem rd_mem{v}{x:Int}(h:alV v.i.op=true)(A:x∈eE v):x∈aE v:=by unfold aE;rw[if_pos h,nt];exact .inr A
structure RgF(v:VInT)(n:Int):Prop where
 a:(aI v.i.op).ra=true\/(aI v.i.op).wa=true\/v.i.op=6\/v.i.op=38->0<=v.i.a/\v.i.a<n
 b:(aI v.i.op).rb=true->0<=v.i.b/\v.i.b<n
 c:v.i.op=11\/v.i.op=12->0<=v.i.c/\v.i.c<n
 g:v.i.op=6->∀k,k<v.args.length->0<=v.args.getD k 0/\v.args.getD k 0<n
theorem rng_of{v n}(h:alV v.i.op=true)(U:rngV v n):RgF v n:=by
 have N: ∀x∈eE v,0<=x/\x<(n:Int):=fun x hx=>U x (a1W _ (rd_mem h hx))
 refine⟨fun Z=>?_,fun hb=>N _ ?_,fun hc=>N _ ?_,fun E k T=>N _ ?_⟩
 ·by_cases A:(aI v.i.op).ra=true
  ·exact N _ (by unfold eE;rw[if_pos A];simp)
  refine U _ (a1s _ ?_);unfold ah;rw[if_pos ⟨h,Z.resolve_left A⟩];exact a0b.2 V
 ·unfold eE;rw[if_pos hb];simp
 ·unfold eE;rw[if_pos hc];simp
 unfold eE;rw[if_pos E];refine a1s _ (a1s _ (a1s _ ?_));rw[a03,a06 T];exact a0T T
theorem rng_no{v:VInT}{n k:Nat}{l:List Int}(e:l=aE v++ah v)(A:k<l.length)(h: ¬(0<=l.getD k 0/\l.getD k 0<(n:Int))): ¬rngV v n:=fun E=>h (E _ (by
 rw[←e,a03,a06 A];exact a0T A))
theorem rng_all{v:VInT}{n k:Nat}{l:List Int}(e:l=aE v++ah v)(T:l.length<=k)(h: ∀j,j<k->0<=l.getD j 0/\l.getD j 0<(n:Int)):rngV v n:=fun x E=>by rw[←e]at E;obtain⟨j,N,A⟩:=a0x.1 E;have:=h j M;rwa [a03,a06 N,a0O,A]at this
theorem exp_no{v l}(h: ¬(alV v.i.op=true/\rngV v l.length)):[]=lY v l:=(if_neg h).symm
theorem exp_6{v l}(h:alV v.i.op=true)(E:rngV v l.length)(A:v.i.op=6):jX l v.args v.args.length++[⟨6,(v.args.length:Int),0,0,v.i.n⟩]++savV (atV l v.i.a).inS (atV l v.i.a).x=lY v l:=by unfold lY;rw[if_pos ⟨h,E⟩,if_pos A]
theorem exp_o{v l}(h:alV v.i.op=true)(E:rngV v l.length)(A:v.i.op≠6):(if v.i.op=10 then movV v.i l else jf (aD v.i.op) v.i l)=lY v l:=(if_neg A).symm.trans (if_pos (c:=alV v.i.op=true/\rngV v l.length) ⟨h,E⟩).symm
theorem vin_eq{op:Int}(h:op≠38):aD op=aI op:=if_neg h
theorem inf4{op:Int}(h:alV op=true)(A:op≠38):(aI op).f=4↔op=11\/op=12:=by rw[←vin_eq A];exact vf4 h
theorem sr_len{v}:(aE v).length<=3+v.args.length/\(ah v).length<=1:=by
 constructor
 ·unfold aE;split
  ·refine a0e eC ?_;unfold eE;simp only[a02,a07];have A:(if(aI v.i.op).ra=true then [v.i.a] else []).length<=1:=de;have E:(if(aI v.i.op).rb=true then [v.i.b] else []).length<=1:=de;have N:(if v.i.op=11\/v.i.op=12 then [v.i.c] else []).length<=1:=de;have T:(if v.i.op=6 then v.args else []).length<=v.args.length:=by split<;>simp
   omega
  exact a0r _
 exact de
theorem len1{p:Prop} [Decidable p]{x:InsT}:(if p then [x] else []).length<=1:=by split<;>simp
theorem lenA{f:InfT}{i:InsT}{l:List LocT}:(aV f i l).length<=1:=len1
theorem lenB{f:InfT}{i:InsT}{l:List LocT}:(bV f i l).length<=1:=len1
theorem lenC{f:InfT}{i:InsT}{l:List LocT}:(cV f i l).length<=1:=len1
theorem oth1{f i l A E N}{oo oa ob oc on tx:Int}{tb}(T:A=aV f i l)(U:E=A++bV f i l)(a_:N=E++cV f i l)(ho:oo=opV i)(ha:oa=oA f i l)(hb:ob=oB f i l)(hc:oc=oC f i l)(hn:on=oN f i)
  (ht:f.wa=true->tb=(atV l i.a).inS/\tx=(atV l i.a).x) (hw:f.wa=true/\tb=true):N++[⟨oo,oa,ob,oc,on⟩]++[⟨37,5,0,0,tx⟩]=jf f i l:=by
 obtain⟨Z,h6⟩:=ht hw.1
 unfold jf
 rw[a_,U,T,ho,ha,hb,hc,hn,h6]
 congr 1
 unfold wV
 rw[if_pos ⟨hw.1,by rw[←Z];exact hw.2⟩]
theorem oth0{f i l N T U}{oo oa ob oc on:Int}{tb}(a_:N=aV f i l)(Z:T=N++bV f i l)(h4:U=T++cV f i l)(ho:oo=opV i)(ha:oa=oA f i l)(hb:ob=oB f i l)(hc:oc=oC f i l)(hn:on=oN f i)
  {tx:Int} (ht:f.wa=true->tb=(atV l i.a).inS/\tx=(atV l i.a).x) (hw:f.wa=true->tb=false):U++[⟨oo,oa,ob,oc,on⟩]=jf f i l:=by
 unfold jf
 rw[h4,Z,a_,ho,ha,hb,hc,hn]
 have e:wV f i l=[]:=by unfold wV;rw[if_neg];rintro⟨A,E⟩;rw[←(ht A).1,hw A]at E;cases E
 rw[e,a0p]
theorem loc_ext{x y:LocT}(h:x.inS=y.inS/\x.x=y.x):x=y:=by cases x;cases y;simp at h;rw[h.1,h.2]
theorem exp_m{v l}(h:alV v.i.op=true)(E:rngV v l.length)(A:v.i.op=10):movV v.i l=lY v l:=(if_pos A).symm.trans (exp_o h E M)
theorem exp_n{v l}(h:alV v.i.op=true)(N:rngV v l.length)(E:v.i.op≠6)(A:v.i.op≠10):jf (aD v.i.op) v.i l=lY v l:=by rw[←exp_o h N E,if_neg A]
theorem mov1{i l}(h:atV l i.a=atV l i.b):[]=movV i l:=(if_pos h).symm
theorem mov2{i l}(h: ¬((atV l i.a).inS=(atV l i.b).inS/\(atV l i.a).x=(atV l i.b).x))(A:(atV l i.b).inS=true/\(atV l i.a).inS=false):[⟨36,(atV l i.a).x,0,0,(atV l i.b).x⟩]=movV i l:=by unfold movV;rw[if_neg (fun e=>h (by rw[e];exact⟨V,V⟩)),if_pos A]
theorem mov3{i l}(A:(atV l i.a).inS=true/\(atV l i.b).inS=false):[⟨37,(atV l i.b).x,0,0,(atV l i.a).x⟩]=movV i l:=by unfold movV;rw[if_neg (fun e=>by rw[e,A.2]at A;cases A.1),if_neg (fun h=>by rw[A.1]at h;cases h.2),if_pos A]
theorem mov4{i l}(h: ¬((atV l i.a).inS=(atV l i.b).inS/\(atV l i.a).x=(atV l i.b).x))(A: ¬((atV l i.b).inS=true/\(atV l i.a).inS=false))(E: ¬((atV l i.a).inS=true/\(atV l i.b).inS=false)):jf (aD i.op) i l=movV i l:=by unfold movV;rw[if_neg (fun e=>h (by rw[e];exact⟨V,V⟩)),if_neg A,if_neg E]
theorem gk{b}{x s:Int}(h:in64 x)(A:in64 s):in64 (eX b x s):=by unfold eX;split<;>assumption
theorem roth_eq{i l}(A:i.op=10->movV i l=jf (aD i.op) i l):(if i.op=10 then movV i l else jf (aD i.op) i l)=jf (aD i.op) i l:=by
 split
 ·rename_i h;exact A h
 rfl
theorem rng_va{v:VInT}(h:(aD v.i.op).ra=true\/(aD v.i.op).wa=true):(aI v.i.op).ra=true\/(aI v.i.op).wa=true\/v.i.op=6\/v.i.op=38:=by
 rcases h with h|h
 ·exact .inl (by rw[←vra];exact h)
 rcases vwa.1 h with h|h
 ·exact .inr (.inl h)
 exact .inr (.inr (.inr h))
theorem par{v:VInT}{l:List LocT}(A:v.i.op=38):jf (aD v.i.op) v.i l=[⟨36,eX (atV l v.i.a).inS (atV l v.i.a).x 5,0,0,v.i.n⟩]++(if(atV l v.i.a).inS=true then [⟨37,5,0,0,(atV l v.i.a).x⟩] else []):=by
 have e:aD v.i.op=⟨⟨[]⟩,5,false,true,false,false,0⟩:=by unfold aD;rw[if_pos A]
 unfold jf aV bV cV wV oA oB oC oN opV;rw[e,if_pos A];simp
theorem par1{v:VInT}{l:List LocT}(h:alV v.i.op=true)(N:rngV v l.length)(A:v.i.op=38)(E:(atV l v.i.a).inS=false):[⟨36,(atV l v.i.a).x,0,0,v.i.n⟩]=lY v l:=by rw[←exp_n h N M M,par A,E];rfl
theorem par2{v:VInT}{l:List LocT}(h:alV v.i.op=true)(N:rngV v l.length)(A:v.i.op=38)(E:(atV l v.i.a).inS=true):[⟨36,5,0,0,v.i.n⟩,⟨37,5,0,0,(atV l v.i.a).x⟩]=lY v l:=by rw[←exp_n h N M M,par A,E];rfl
theorem iN(to:Int)(n:Int)(hs:Hb H F H [] R)(Z:in64 to)(hn:in64 n)(hT:TB 37 tabC F):kKt ex 91 [to,n] H fun v H'=> ∃(x:InsT),∃F',F.le F'/\Hb H F' H' [] R/\v= .agg ⟨[iI x.op,iI x.a,iI x.b,iI x.c,iI x.n]⟩/\in64 x.op/\in64 x.a/\in64 x.b/\in64 x.c/\in64 x.n/\x=(⟨36,to,0,0,n⟩:InsT):=by refine aB Tryz.func91 V V (am 1 V (ab (zn hs V fun a_ T E=>ae 2 V (sgr 1 5 7 [] [] (Hr_ 3 0 Hn_) E V V fun N U A=>?_))));refine ak ⟨.inr V,_,(rC V (l7 V V (h_ A V) V) rN),(⟨36,to,0,0,n⟩:InsT),_,fR,(HS.forget A),V,M,M,M,M,M,m_⟩
theorem kQ(to:Int)(n:Int)(hs:Hb H F H [] R)(Z:in64 to)(hn:in64 n)(hT:TB 37 tabC F):kKt ex 71 [to,n] H fun v H'=> ∃(x:InsT),∃F',F.le F'/\Hb H F' H' [] R/\v= .agg ⟨[iI x.op,iI x.a,iI x.b,iI x.c,iI x.n]⟩/\in64 x.op/\in64 x.a/\in64 x.b/\in64 x.c/\in64 x.n/\x=(⟨37,to,0,0,n⟩:InsT):=by refine aB Tryz.func71 V V (am 1 V (ab (zn hs V fun a_ T E=>ae 2 V (sgr 1 5 7 [] [] (Hr_ 3 0 Hn_) E V V fun N U A=>?_))));refine ak ⟨.inr V,_,(rC V (l7 V V (h_ A V) V) rN),(⟨37,to,0,0,n⟩:InsT),_,fR,(HS.forget A),V,M,M,M,M,M,m_⟩
theorem move_c(to:Int)(n:Int)(hs:Hb H F H [] R)(Z:in64 to)(hn:in64 n)(hT:TB 37 tabC F):kKt ex 133 [to,n] H fun v H'=> ∃(x:InsT),∃F',F.le F'/\Hb H F' H' [] R/\v= .agg ⟨[iI x.op,iI x.a,iI x.b,iI x.c,iI x.n]⟩/\in64 x.op/\in64 x.a/\in64 x.b/\in64 x.c/\in64 x.n/\x=(⟨10,to,n,0,0⟩:InsT):=by refine aB Tryz.func133 V V (am 1 V (ab (zn hs V fun a_ T E=>ae 2 V (sgr 1 5 7 [] [] (Hr_ 3 0 Hn_) E V V fun N U A=>?_))));refine ak ⟨.inr V,_,(rC V (l7 V V (h_ A V) V) rN),(⟨10,to,n,0,0⟩:InsT),_,fR,(HS.forget A),V,M,M,M,M,M,m_⟩
theorem iK(x:LocT)(Z:Int)(hs:Hb H F H [] R)(N:in64 x.x)(aa:in64 Z)(hT:TB 37 tabC F):kKt ex 81 [(aG [x.inS,x.x]),Z] H fun v H'=> ∃(r:Int),∃F',F.le F'/\Hb H F' H' [] R/\v=iI r/\r=eX x.inS x.x Z:=by
 refine aB Tryz.func81 V V (am 1 V (ab (aT (aN hs V V) V V ?_)));rintro _ T _ ⟨U,rfl,E,_⟩;refine za (iI 0) (ae 3 V (aU 1 5 6 [] [(6,x.inS)] (Hr_ 1 0 Hn_) E V V fun _=>zi 1 2 (fun A=>?_) fun A=>?_))
 ·have c4:=A;try simp only[BS]at c4
  refine wT 1 [] 4 4 [7] [(4,Z)] V fun _=>ak ⟨.inr V,_,V,Z,_,fR,(HS.forget E),V,(by unfold eX;simp[A])⟩
 refine aU 1 8 9 [4] [(4,x.x)] (Hr_ 1 0 Hn_) E V V fun _=>ak ⟨.inr V,_,V,x.x,_,fR,(HS.forget E),V,(by unfold eX;simp[A])⟩
theorem gT(to:Int)(x:LocT)(hs:Hb H F H [] R)(aw:in64 to)(ap:in64 x.x)(hT:TB 37 tabC F):kKt ex 82 [to,(aG [x.inS,x.x])] H fun v H'=> ∃ar,∃(kr:Nat) (r:List InsT),∃p F',F.le F'/\Hb H F' H' [p] R/\v=sL ar r.length kr/\OZ F' ar r kr p/\r=eQ to x.inS x.x:=by
 refine aB Tryz.func82 V V (am 1 V (ab (aT (aN hs V V) V V ?_)));rintro _ H2 _ ⟨b1,rfl,A,_⟩;refine za N_ (ae 4 V (aU 1 5 7 [] [(5,x.inS)] (Hr_ 1 0 Hn_) A V V fun _=>zI 1 1 (fun c4=>?_) fun c4=>?_))
 ·refine ab (aS 4 0 8 11 [] [(11,(aG [(iI 36),to,(iI 0),(iI 0),x.x]))] (Hr_ 2 0 Hn_) A V V fun _=>zlo ([(⟨36,to,0,0,x.x⟩:InsT)]:List InsT) A V (RL.cs ⟨V,M,M,M,M,M⟩ RL.nl) V fun a6 k6 p6 H7 a_ Z=>za (sL a6 ([(⟨36,to,0,0,x.x⟩:InsT)]:List InsT).length k6) (ae 1 V (ak ⟨.inr V,_,V,a6,k6,([(⟨36,to,0,0,x.x⟩:InsT)]:List InsT),p6,_,fR,(HS.only Z (i:=1) V),V,a_,(fet1 (l:=[]) X)⟩)))
 refine aU 1 13 17 [] [(13,(x.x !=to))] (Hr_ 1 0 Hn_) A V V fun _=>zI 1 3 (fun c9=>?_) fun c9=>?_
 ·refine ab (aS 4 0 18 21 [] [(21,(aG [(iI 10),to,x.x,(iI 0),(iI 0)]))] (Hr_ 2 0 Hn_) A V V fun _=>zlo ([(⟨10,to,x.x,0,0⟩:InsT)]:List InsT) A V (RL.cs ⟨V,M,M,M,M,M⟩ RL.nl) V fun E N ag av T U=>za (sL E ([(⟨10,to,x.x,0,0⟩:InsT)]:List InsT).length N) (ae 1 V (ak ⟨.inr V,_,V,E,N,([(⟨10,to,x.x,0,0⟩:InsT)]:List InsT),ag,_,fR,(HS.only U (i:=1) V),V,T,(fet2 (l:=[]) X X)⟩)))
 refine wT 1 [] 4 4 [] [(4,N_)] V fun _=>ak ⟨.inr V,_,V,none,0,([]:List InsT),[],_,fR,(HS.cons (HS.forget A)),V,(OS.nil:OS _ _ _ []),(fet0 (l:=[]) X M)⟩
theorem lalw_c(op:Int)(H:Heap):kKt ex 86 [op] H fun v H'=> ∃(r:Bool),H'=H/\v= .bool r/\r=alV op:=by
 refine aB Tryz.func86 V V (am 1 V (wT 3 [] 2 2 [] [(2,false)] V fun _=>wT 4 [] 3 3 [] [(3,op)] V fun _=>wT 1 [] 4 5 [] [(4,(op==3))] V fun _=>zi 1 1 (fun ag=>?_) fun ag=>?_))
 ·have c4:=ag;try simp only[BS]at c4
  refine aX 1 (v:=(op==3)) V ag V V (wT 1 [] 2 2 [] [(2,true)] V fun _=>ak ⟨.inr V,_,V,true,V,V,(bL l_)⟩)
 have c4:=ag;try simp only[BS]at c4
 refine wT 1 [] 4 6 [] [(4,(op==6))] V fun _=>zi 1 1 (fun an=>?_) fun an=>?_
 ·have c7:=an;try simp only[BS]at c7
  refine aX 1 (v:=(op==6)) V an V V (wT 1 [] 2 2 [] [(2,true)] V fun _=>ak ⟨.inr V,_,V,true,V,V,(bL l_)⟩)
 have c7:=an;try simp only[BS]at c7
 refine wT 1 [] 4 7 [] [(4,(op==9))] V fun _=>zi 1 1 (fun A=>?_) fun A=>?_
 ·have ap:=A;try simp only[BS]at ap
  refine aX 1 (v:=(op==9)) V A V V (wT 1 [] 2 2 [] [(2,true)] V fun _=>ak ⟨.inr V,_,V,true,V,V,(bL l_)⟩)
 have ap:=A;try simp only[BS]at ap
 refine wT 1 [] 4 8 [] [(4,(op==10))] V fun _=>zi 1 1 (fun E=>?_) fun E=>?_
 ·have aq:=E;try simp only[BS]at aq
  refine aX 1 (v:=(op==10)) V E V V (wT 1 [] 2 2 [] [(2,true)] V fun _=>ak ⟨.inr V,_,V,true,V,V,(bL l_)⟩)
 have aq:=E;try simp only[BS]at aq
 refine wT 1 [] 4 9 [] [(4,(op==11))] V fun _=>zi 1 1 (fun N=>?_) fun N=>?_
 ·have ar:=N;try simp only[BS]at ar
  refine aX 1 (v:=(op==11)) V N V V (wT 1 [] 2 2 [] [(2,true)] V fun _=>ak ⟨.inr V,_,V,true,V,V,(bL l_)⟩)
 have ar:=N;try simp only[BS]at ar
 refine wT 1 [] 4 10 [] [(4,(op==12))] V fun _=>zi 1 1 (fun T=>?_) fun T=>?_
 ·have av:=T;try simp only[BS]at av
  refine aX 1 (v:=(op==12)) V T V V (wT 1 [] 2 2 [] [(2,true)] V fun _=>ak ⟨.inr V,_,V,true,V,V,(bL l_)⟩)
 have av:=T;try simp only[BS]at av
 refine wT 1 [] 4 11 [] [(4,(op==13))] V fun _=>zi 1 1 (fun U=>?_) fun U=>?_
 ·have aw:=U;try simp only[BS]at aw
  refine aX 1 (v:=(op==13)) V U V V (wT 1 [] 2 2 [] [(2,true)] V fun _=>ak ⟨.inr V,_,V,true,V,V,(bL l_)⟩)
 have aw:=U;try simp only[BS]at aw
 refine wT 1 [] 4 12 [] [(4,(op==33))] V fun _=>zi 1 1 (fun a_=>?_) fun a_=>?_
 ·have ax:=a_;try simp only[BS]at ax
  refine aX 1 (v:=(op==33)) V a_ V V (wT 1 [] 2 2 [] [(2,true)] V fun _=>ak ⟨.inr V,_,V,true,V,V,(bL l_)⟩)
 have ax:=a_;try simp only[BS]at ax
 refine wT 1 [] 4 13 [] [(4,(op==34))] V fun _=>zi 1 1 (fun Z=>?_) fun Z=>?_
 ·have ay:=Z;try simp only[BS]at ay
  refine aX 1 (v:=(op==34)) V Z V V (wT 1 [] 2 2 [] [(2,true)] V fun _=>ak ⟨.inr V,_,V,true,V,V,(bL l_)⟩)
 have ay:=Z;try simp only[BS]at ay
 refine wT 1 [] 4 14 [] [(4,(op==35))] V fun _=>zi 1 0 (fun aa=>?_) fun aa=>?_
 ·have a1:=aa;try simp only[BS]at a1
  refine aX 1 (v:=(op==35)) V aa V V (wT 1 [] 2 2 [] [(2,true)] V fun _=>ak ⟨.inr V,_,V,true,V,V,(bL l_)⟩)
 have a1:=aa;try simp only[BS]at a1
 refine wT 1 [] 4 15 [] [(4,(op==38))] V fun _=>zI 1 3 (fun a3=>?_) fun a3=>?_
 ·refine wT 1 [] 2 2 [] [(2,true)] V fun _=>ak ⟨.inr V,_,V,true,V,V,(bL l_)⟩
 refine wT 1 [] 16 21 [2] [(2,((decide ((15:Int)<=op))&&(decide (op<=32))))] V fun _=>ak ⟨.inr V,_,V,((decide ((15:Int)<=op))&&(decide (op<=32))),V,V,(bL l_)⟩
theorem lalw_c_q(op:Int)(H:Heap):kKt ex 86 [op] H fun v H'=>v=(.bool (alV op))/\H'=H:=
 cq (lalw_c ex op H) (by rintro _ _ ⟨_,rfl,rfl,rfl⟩;exact⟨V,V⟩)
theorem a_3{p:Prop}(h:p:=by unfold oN;split<;>first|rfl|omega):p:=h
theorem xop_c(i:InsT){cc d2 b9 d1}(a:AllT)(hs:Hb H F H [] R)(n6:in64 i.op)(n7:in64 i.a)(oh:in64 i.b)(ol:in64 i.c)(ow:in64 i.n)(A:Sr F b9 a.l d1)(n1:Sr F cc a.p d2)(n5:in64 a.k)(hT:TB 37 tabC F)(q0:alV i.op=true)(hf:i.op≠38)(hA:(aI i.op).ra=true\/(aI i.op).wa=true->0<=i.a/\i.a<(a.l.length:Int))(hB:(aI i.op).rb=true->0<=i.b/\i.b<(a.l.length:Int))(hC:(aI i.op).f=4->0<=i.c/\i.c<(a.l.length:Int)):kKt ex 92 [(aG [i.op,i.a,i.b,i.c,i.n]),(aG [(sL b9 a.l.length d1),(sL cc a.p.length d2),a.k])] H fun v H'=> ∃ar,∃(kr:Nat) (r:List InsT),∃p F',F.le F'/\Hb H F' H' [p] R/\v=sL ar r.length kr/\OZ F' ar r kr p/\r=jf (aI i.op) i a.l:=by
 refine aB Tryz.func92 V V (am 1 V (ab (aT (aN hs V V) V V ?_)));rintro _ H2 _ ⟨b1,rfl,ky,_⟩;refine aT (aN ky V V) V V ?_;rintro _ H4 _ ⟨b3,rfl,f3,_⟩;refine za N_ (ae 2 V (ab (aS 2 0 14 15 [] [(15,i.op)] (Hr_ 1 0 Hn_) f3 V V fun _=>zc (m1.gZ ex i.op (HS.call f3) M hT) ?_)));rintro _ H6 ⟨x6,o6,F6,et,f5,rfl,kp,kx,rfl,rfl⟩;replace f5:=HS.back f3 V f5;replace hT:=hT.mono et;replace A:=A.mono et;refine bK 3 3 17 18 [13] [(17,(aG [(tX (aI i.op).name.b),(aI i.op).f,(.bool (aI i.op).ra),(.bool (aI i.op).wa),(.bool (aI i.op).rb),(.bool (aI i.op).mt),(aI i.op).w])),(18,(infO i.op))] Hn_ K_ V fun _=>zn f5 V fun b8 H9 kz=>sgo 2 7 1 0 [6] [] (Hr_ 7 2 Hn_) kz V V fun lv oG f2=>ae 2 V (wT 2 [] 1 0 [7] [(7,N_)] V fun _=>ab ?_)
 let b4:Fp:=(fP b1 [i.op,i.a,i.b,i.c,i.n])
 let b5:Fp:=(fP b3 [(sL b9 a.l.length d1),(sL cc a.p.length d2),a.k])
 let b6:Fp:=(fP b8 [(tX (aI i.op).name.b),(aI i.op).f,(.bool (aI i.op).ra),(.bool (aI i.op).wa),(.bool (aI i.op).rb),(.bool (aI i.op).mt),(aI i.op).w])
 refine aS 3 0 19 21 [] [(21,(aG [i.op,(iI 0),(iI 0),(iI 0),(iI 0)]))] (Hr_ 1 0 Hn_) f2 V V fun _=>zn f2 V fun an oH hE=>sgo 1 4 1 0 [] [] (Hr_ 4 3 Hn_) hE V V fun lz oI bz=>ae 3 V (aU 1 22 29 [] [(29,(((aI i.op).f==5)||((aI i.op).f==7)))] (Hr_ 1 2 (bp 5 (fun _=>(ql 3 1 (j_ bz V) V V)) Hn_)) bz V V fun _=>ba (fun f H'=> ∃(on:Int),∃F',F6.le F'/\Hb H F' H' [b4,b5,b6,(fP an [i.op,(iI 0),(iI 0),(iI 0),on])] R/\aA f [(2,(pT b1 0)),(3,(pT b3 0)),(5,(pT b8 0)),(7,N_),(8,(pT an 0))]/\(on=oN (aI i.op) i)/\(in64 on)) (fun g3=>?_) ?_)
 ·refine zI 0 0 (fun j2=>?_) fun j2=>?_
  ·refine sgr 0 30 32 [] [] (Hr_ 1 0 (Hr_ 3 3 Hn_)) bz V V fun l0 oK hF=>?_
   exact g3 _ _ ⟨i.n,_,fR,hF,f_,a_3,M⟩
  exact g3 _ _ ⟨0,_,fR,bz,f_,a_3,M⟩
 skip;rintro pG oJ ⟨on,i5,a9,a3,fd,hn,rn⟩;refine au _ fd (fun _=>?_);clear fd;replace hT:=hT.mono a9;replace A:=A.mono a9;refine am 3 V (aU 1 33 45 [] [(45,((i.op==13)&&((decide (i.n<(-4194304)))||(decide ((4194304:Int)<=i.n)))))] (Hr_ 1 0 (bp 5 (fun _=>(ql 2 4 (h_ a3 V) V V)) (iu 9 (fun _ _=>(ql 2 4 (h_ a3 V) V V)) Hn_))) a3 V V fun _=>ba (fun f H'=> ∃(oo:Int),∃F',i5.le F'/\Hb H F' H' [b4,b5,b6,(fP an [oo,(iI 0),(iI 0),(iI 0),on])] R/\aA f [(2,(pT b1 0)),(3,(pT b3 0)),(5,(pT b8 0)),(7,N_),(8,(pT an 0))]/\(oo=opV i)/\(in64 oo)) (fun g4=>?_) ?_)
 ·refine zI 0 0 (fun ka=>?_) fun ka=>?_
  ·refine sgr 0 46 46 [] [] (Hr_ 1 3 Hn_) a3 V V fun l1 oM hH=>?_
   exact g4 _ _ ⟨14,_,fR,hH,f_,(by unfold opV;rw[if_neg hf];split<;>first|rfl|omega),M⟩
  exact g4 _ _ ⟨i.op,_,fR,a3,f_,(by unfold opV;rw[if_neg hf];split<;>first|rfl|omega),M⟩
 skip;rintro pH oL ⟨oo,jb,bb,hG,fi,ho,ro⟩;refine au _ fi (fun _=>?_);clear fi;replace hT:=hT.mono bb;replace A:=A.mono bb;refine am 2 V (ab (bK 1 0 47 47 [] [(47,(aG [false,(iI 0)]))] Hn_ K_ V fun _=>zn hG V fun a8 oO hI=>sgo 1 2 1 0 [] [] (Hr_ 2 4 Hn_) hI V V fun l2 oP co=>ae 3 V ?_));refine aU 1 48 53 [] [(53,((aI i.op).ra||(aI i.op).wa))] (Hr_ 1 2 (bp 4 (fun _=>(ql 4 3 (j_ co V) V V)) Hn_)) co V V fun _=>?_
 have a4:=HS.snoc co;refine ba (fun f H'=> ∃(o2:List InsT) (oa:Int) (tb:Bool) (tx:Int),∃E,∃(T:Nat),∃aa F',jb.le F'/\Hb H F' H' [b4,b5,b6,(fP an [oo,oa,(iI 0),(iI 0),on]),(fP a8 [tb,tx]),aa] R/\OZ F' E o2 T aa/\aA f [(2,(pT b1 0)),(3,(pT b3 0)),(5,(pT b8 0)),(7,(sL E o2.length T)),(8,(pT an 0)),(9,(pT a8 0))]/\(o2=aV (aI i.op) i a.l)/\(oa=oA (aI i.op) i a.l)/\((aI i.op).wa=true->tb=(atV a.l i.a).inS/\tx=(atV a.l i.a).x)/\(in64 oa)/\(in64 tx)) (fun b2=>?_) ?_
 ·refine zI 1 0 (fun kc=>?_) fun kc=>?_
  ·have pL:=hA X;refine ab ?_;obtain⟨lf,gt⟩:=Sv.view (SR.sv A a4);have k5:=LocT.fx (gt i.a.toNat);refine aS 6 0 54 59 [] [(59,(aG [(.bool (a.l.getD i.a.toNat v_).inS),(a.l.getD i.a.toNat v_).x]))] (Hr_ 1 1 (Hr_ 3 0 (Ha_ (Sv.ix (j:=i.a) (SR.sv A a4)) (Hl_ 5 (qn 39 0 2 (LocT.vw (gt i.a.toNat)) V V V V) Hn_)))) a4 V V fun _=>zn a4 V fun pD oR hJ=>sgo 1 7 1 0 [] [] (Hr_ 7 6 Hn_) hJ V V fun l3 oT hK=>ae 2 V (sgr 2 60 60 [] [] (Hr_ 0 6 (Hr_ 1 4 Hn_)) hK V V fun l4 oU hL=>sgr 2 61 63 [] [] (Hr_ 1 6 (Hr_ 3 3 Hn_)) hL V V fun l9 oV c5=>?_)
   refine aU 1 64 65 [] [(65,(.bool (a.l.getD i.a.toNat v_).inS))] (Hr_ 1 6 Hn_) c5 V V fun _=>zI 1 0 (fun kd=>?_) fun kd=>?_
   ·refine sgr 2 66 66 [] [] (Hr_ 1 3 Hn_) c5 V V fun mk oW a5=>aU 1 67 68 [] [(68,(.bool (aI i.op).ra))] (Hr_ 1 2 Hn_) a5 V V fun _=>zI 0 0 (fun kg=>?_) fun kg=>?_
    ·refine ab (aS 3 0 69 71 [] [(69,N_),(71,(a.l.getD i.a.toNat v_).x)] (Hr_ 2 6 Hn_) a5 V V fun _=>zc (iN ex (5) (a.l.getD i.a.toNat v_).x (HS.call a5) M M hT) ?_);rintro _ oX ⟨pZ,jw,hp,c6,rfl,hX,hY,h1,h5,h6,rfl⟩;replace c6:=HS.back a5 V c6;refine zlo ([(⟨36,(5:Int),0,0,(a.l.getD i.a.toNat v_).x⟩:InsT)]:List InsT) c6 V (RL.cs ⟨V,M,M,M,M,M⟩ RL.nl) V fun py pO pU oY hq f4=>zao 5 (OS.nil:OS _ N_ ([]:List InsT) []) f4 (OS.sv hq f4 (i:=7) V) V V V M fun e1 g5 hj oZ ci hM=>?_
     have ci:OS jw (sL e1 ([(⟨36,(5:Int),0,0,(a.l.getD i.a.toNat v_).x⟩:InsT)]:List InsT).length g5) ([(⟨36,(5:Int),0,0,(a.l.getD i.a.toNat v_).x⟩:InsT)]:List InsT) hj:=ci;refine za (sL e1 ([(⟨36,(5:Int),0,0,(a.l.getD i.a.toNat v_).x⟩:InsT)]:List InsT).length g5) (ae 0 V ?_);exact b2 _ _ ⟨([(⟨36,(5:Int),0,0,(a.l.getD i.a.toNat v_).x⟩:InsT)]:List InsT),5,(a.l.getD i.a.toNat v_).inS,(a.l.getD i.a.toNat v_).x,e1,g5,hj,_,(hp),(HS.sub hM (a01 _ _)),ci,f_,(by unfold aV;(repeat' split)<;>first|rfl|omega|simp_all),(by unfold oA eX;(repeat' split)<;>first|rfl|omega|simp_all),(fun _=>⟨V,V⟩),M,M⟩
    exact b2 _ _ ⟨([]:List InsT),5,(a.l.getD i.a.toNat v_).inS,(a.l.getD i.a.toNat v_).x,none,0,[],_,fR,(HS.sub a5 (a01 _ _)),(OS.nil:OS _ N_ ([]:List InsT) []),f_,(by unfold aV;(repeat' split)<;>first|rfl|omega|simp_all),(by unfold oA eX;(repeat' split)<;>first|rfl|omega|simp_all),(fun _=>⟨V,V⟩),M,M⟩
   exact b2 _ _ ⟨([]:List InsT),(a.l.getD i.a.toNat v_).x,(a.l.getD i.a.toNat v_).inS,(a.l.getD i.a.toNat v_).x,none,0,[],_,fR,(HS.sub c5 (a01 _ _)),(OS.nil:OS _ N_ ([]:List InsT) []),f_,(by unfold aV;(repeat' split)<;>first|rfl|omega|simp_all),(by unfold oA eX;(repeat' split)<;>first|rfl|omega|simp_all),(fun _=>⟨V,V⟩),M,M⟩
  exact b2 _ _ ⟨([]:List InsT),0,false,0,none,0,[],_,fR,a4,(OS.nil:OS _ N_ ([]:List InsT) []),f_,(by unfold aV;(repeat' split)<;>first|rfl|omega|simp_all),(by unfold oA eX;(repeat' split)<;>first|rfl|omega|simp_all),(fun h=>absurd h n_),M,M⟩
 skip;rintro pI oQ ⟨o2,oa,tb,tx,E,T,aa,jq,bk,aw,a_,fj,h2,ha,ht,ra,rx⟩;refine au _ fj (fun _=>?_);clear fj;replace hT:=hT.mono bk;replace A:=A.mono bk;have n2:o2.length<=1:=by rw[h2];exact lenA
 refine am 3 V (aU 1 75 76 [] [(76,(.bool (aI i.op).rb))] (Hr_ 1 2 Hn_) aw V V fun _=>ba (fun f H'=> ∃(o3:List InsT) (ob:Int),∃N,∃(U:Nat),∃ag F',jq.le F'/\Hb H F' H' [b4,b5,b6,(fP an [oo,oa,ob,(iI 0),on]),(fP a8 [tb,tx]),ag] R/\OZ F' N o3 U ag/\aA f [(2,(pT b1 0)),(3,(pT b3 0)),(5,(pT b8 0)),(7,(sL N o3.length U)),(8,(pT an 0)),(9,(pT a8 0))]/\(o3=o2++bV (aI i.op) i a.l)/\(ob=oB (aI i.op) i a.l)/\(in64 ob)) (fun ds=>?_) ?_)
 ·refine zI 1 0 (fun ki=>?_) fun ki=>?_
  ·have pM:=hB X;refine ab ?_;obtain⟨ll,g1⟩:=Sv.view (SR.sv A aw);have k6:=LocT.fx (g1 i.b.toNat);refine aS 6 0 77 82 [] [(82,(aG [(.bool (a.l.getD i.b.toNat v_).inS),(a.l.getD i.b.toNat v_).x]))] (Hr_ 1 1 (Hr_ 3 0 (Ha_ (Sv.ix (j:=i.b) (SR.sv A aw)) (Hl_ 5 (qn 39 0 2 (LocT.vw (g1 i.b.toNat)) V V V V) Hn_)))) aw V V fun _=>zn aw V fun pE o1 hO=>sgo 1 7 1 0 [] [] (Hr_ 7 6 Hn_) hO V V fun mm o5 hP=>ae 2 V (sgr 2 83 85 [] [] (Hr_ 1 6 (Hr_ 3 3 Hn_)) hP V V fun mx o7 c7=>aU 1 86 87 [] [(87,(.bool (a.l.getD i.b.toNat v_).inS))] (Hr_ 1 6 Hn_) c7 V V fun _=>?_)
   refine zI 1 0 (fun kk=>?_) fun kk=>?_
   ·refine sgr 1 88 88 [] [] (Hr_ 1 3 Hn_) c7 V V fun mI o8 c8=>ab (aS 3 0 89 91 [] [(89,(sL E o2.length T)),(91,(a.l.getD i.b.toNat v_).x)] (Hr_ 2 6 Hn_) c8 V V fun _=>zc (iN ex (6) (a.l.getD i.b.toNat v_).x (HS.call c8) M M hT) ?_)
    rintro _ o9 ⟨p0,oz,e4,c9,rfl,h7,h8,h9,ib,ih,rfl⟩;replace c9:=HS.back c8 V c9;replace a_:=a_.mono e4;refine zlo ([(⟨36,(6:Int),0,0,(a.l.getD i.b.toNat v_).x⟩:InsT)]:List InsT) c9 V (RL.cs ⟨V,M,M,M,M,M⟩ RL.nl) V fun pz pP pV pc hr f6=>zao 5 a_ f6 (OS.sv hr f6 (i:=7) V) V V V M fun g9 hg k0 pd hu hQ=>za (sL g9 (o2++([(⟨36,(6:Int),0,0,(a.l.getD i.b.toNat v_).x⟩:InsT)]:List InsT)).length hg) (ae 0 V ?_)
    exact ds _ _ ⟨o2++([(⟨36,(6:Int),0,0,(a.l.getD i.b.toNat v_).x⟩:InsT)]:List InsT),6,g9,hg,k0,_,(e4),(HS.sub hQ (a01 _ _)),hu,f_,(by unfold bV;(repeat' split)<;>first|rfl|omega|simp_all),(by unfold oB eX;(repeat' split)<;>first|rfl|omega|simp_all),M⟩
   exact ds _ _ ⟨o2,(a.l.getD i.b.toNat v_).x,E,T,aa,_,fR,(HS.sub c7 (a01 _ _)),a_,f_,(by unfold bV;(repeat' split)<;>first|rfl|omega|simp_all),(by unfold oB eX;(repeat' split)<;>first|rfl|omega|simp_all),M⟩
  exact ds _ _ ⟨o2,0,E,T,aa,_,fR,aw,a_,f_,(by unfold bV;(repeat' split)<;>first|rfl|omega|simp_all),(by unfold oB eX;(repeat' split)<;>first|rfl|omega|simp_all),M⟩
 skip;rintro pJ o0 ⟨o3,ob,N,U,ag,j1,bl,ax,Z,f0,h3,hb,rb⟩;refine au _ f0 (fun _=>?_);clear f0;replace hT:=hT.mono bl;replace A:=A.mono bl;have n3:o3.length<=2:=by rw[h3,a02];exact a1q n2 lenB
 refine am 3 V (aU 1 95 97 [] [(97,((aI i.op).f==4))] (Hr_ 1 2 Hn_) ax V V fun _=>ba (fun f H'=> ∃(o4:List InsT) (oc:Int),∃ap,∃(aq:Nat),∃a7 F',j1.le F'/\Hb H F' H' [b4,b5,b6,(fP an [oo,oa,ob,oc,on]),(fP a8 [tb,tx]),a7] R/\OZ F' ap o4 aq a7/\aA f [(5,(pT b8 0)),(7,(sL ap o4.length aq)),(8,(pT an 0)),(9,(pT a8 0))]/\(o4=o3++cV (aI i.op) i a.l)/\(oc=oC (aI i.op) i a.l)/\(in64 oc)) (fun dt=>?_) ?_)
 ·refine zI 1 0 (fun kl=>?_) fun kl=>?_
  ·have pN:=hC X;refine ab ?_;obtain⟨lr,g2⟩:=Sv.view (SR.sv A ax);have k7:=LocT.fx (g2 i.c.toNat);refine aS 6 0 98 103 [] [(103,(aG [(.bool (a.l.getD i.c.toNat v_).inS),(a.l.getD i.c.toNat v_).x]))] (Hr_ 1 1 (Hr_ 3 0 (Ha_ (Sv.ix (j:=i.c) (SR.sv A ax)) (Hl_ 5 (qn 39 0 2 (LocT.vw (g2 i.c.toNat)) V V V V) Hn_)))) ax V V fun _=>zn ax V fun pF pf hR=>sgo 1 7 1 0 [] [] (Hr_ 7 6 Hn_) hR V V fun m0 pg hS=>ae 2 V (sgr 2 104 106 [] [] (Hr_ 1 6 (Hr_ 3 3 Hn_)) hS V V fun nm ph dd=>aU 1 107 108 [] [(108,(.bool (a.l.getD i.c.toNat v_).inS))] (Hr_ 1 6 Hn_) dd V V fun _=>?_)
   refine zI 1 0 (fun kn=>?_) fun kn=>?_
   ·refine sgr 1 109 109 [] [] (Hr_ 1 3 Hn_) dd V V fun nx pi dk=>ab (aS 3 0 110 112 [] [(110,(sL N o3.length U)),(112,(a.l.getD i.c.toNat v_).x)] (Hr_ 2 6 Hn_) dk V V fun _=>zc (iN ex (7) (a.l.getD i.c.toNat v_).x (HS.call dk) M M hT) ?_)
    rintro _ pj ⟨p2,oE,e5,dl,rfl,ii,ik,il,it,iv,rfl⟩;replace dl:=HS.back dk V dl;replace Z:=Z.mono e5;refine zlo ([(⟨36,(7:Int),0,0,(a.l.getD i.c.toNat v_).x⟩:InsT)]:List InsT) dl V (RL.cs ⟨V,M,M,M,M,M⟩ RL.nl) V fun pA pQ pW pm hv f8=>zao 5 Z f8 (OS.sv hv f8 (i:=7) V) V V V M fun he hh k3 pn hw hV=>za (sL he (o3++([(⟨36,(7:Int),0,0,(a.l.getD i.c.toNat v_).x⟩:InsT)]:List InsT)).length hh) (ae 0 V ?_)
    exact dt _ _ ⟨o3++([(⟨36,(7:Int),0,0,(a.l.getD i.c.toNat v_).x⟩:InsT)]:List InsT),7,he,hh,k3,_,(e5),(HS.sub hV (a01 _ _)),hw,f_,(by unfold cV;(repeat' split)<;>first|rfl|omega|simp_all),(by unfold oC eX;(repeat' split)<;>first|rfl|omega|simp_all),M⟩
   exact dt _ _ ⟨o3,(a.l.getD i.c.toNat v_).x,N,U,ag,_,fR,(HS.sub dd (a01 _ _)),Z,f_,(by unfold cV;(repeat' split)<;>first|rfl|omega|simp_all),(by unfold oC eX;(repeat' split)<;>first|rfl|omega|simp_all),M⟩
  exact dt _ _ ⟨o3,0,N,U,ag,_,fR,ax,Z,f_,(by unfold cV;(repeat' split)<;>first|rfl|omega|simp_all),(by unfold oC eX;(repeat' split)<;>first|rfl|omega|simp_all),M⟩
 skip;rintro pK pe ⟨o4,oc,ap,aq,a7,oD,ch,f7,g6,f1,h4,hc,rc⟩;refine au _ f1 (fun _=>?_);clear f1;replace hT:=hT.mono ch;have n4:o4.length<=3:=by rw[h4,a02];exact a1q n3 lenC
 refine am 2 V (ab (aS 2 0 116 117 [] [(116,(sL ap o4.length aq)),(117,(aG [oo,oa,ob,oc,on]))] (Hr_ 1 3 Hn_) f7 V V fun _=>zlo ([(⟨oo,oa,ob,oc,on⟩:InsT)]:List InsT) f7 V (RL.cs ⟨V,M,M,M,M,M⟩ RL.nl) V fun pB pR pX pq hz f9=>zao 5 g6 f9 (OS.sv hz f9 (i:=6) V) V V V M fun em ez k4 pu bt ay=>za (sL em (o4++([(⟨oo,oa,ob,oc,on⟩:InsT)]:List InsT)).length ez) ?_));refine ae 3 V (aU 1 120 125 [] [(125,((aI i.op).wa&&tb))] (Hr_ 1 2 (bp 4 (fun _=>(ql 4 0 (HS.hc ay (i:=4) V) V V)) Hn_)) ay V V fun _=>zI 0 2 (fun ko=>?_) fun ko=>?_)
 ·refine ab (aS 3 0 126 128 [] [(126,(sL em (o4++([(⟨oo,oa,ob,oc,on⟩:InsT)]:List InsT)).length ez)),(128,tx)] (Hr_ 2 4 Hn_) ay V V fun _=>zc (kQ ex (5) tx (HS.call ay) M M hT) ?_);rintro _ pw ⟨p3,oF,e6,dn,rfl,iz,i1,i2,i3,i4,rfl⟩;replace dn:=HS.back ay V dn;replace bt:=bt.mono e6;refine zlo ([(⟨37,(5:Int),0,0,tx⟩:InsT)]:List InsT) dn V (RL.cs ⟨V,M,M,M,M,M⟩ RL.nl) V fun pC pS pY px hD go=>zao 5 bt go (OS.sv hD go (i:=7) V) V V V M fun b7 dv hW k9 g7 g8=>za (sL b7 ((o4++([(⟨oo,oa,ob,oc,on⟩:InsT)]:List InsT))++([(⟨37,(5:Int),0,0,tx⟩:InsT)]:List InsT)).length dv) (ae 2 V (wT 1 [] 4 4 [132] [(4,(sL b7 ((o4++([(⟨oo,oa,ob,oc,on⟩:InsT)]:List InsT))++([(⟨37,(5:Int),0,0,tx⟩:InsT)]:List InsT)).length dv))] V fun _=>ak ⟨.inr V,_,V,b7,dv,(o4++([(⟨oo,oa,ob,oc,on⟩:InsT)]:List InsT))++([(⟨37,(5:Int),0,0,tx⟩:InsT)]:List InsT),hW,_,(fT (fT (fT (fT (fT (fT (et) a9) bb) bk) bl) ch) e6),(HS.only g8 (i:=5) V),V,g7,(oth1 h2 h3 h4 ho ha hb hc hn ht X)⟩))
 refine wT 1 [] 4 4 [132] [(4,(sL em (o4++([(⟨oo,oa,ob,oc,on⟩:InsT)]:List InsT)).length ez))] V fun _=>ak ⟨.inr V,_,V,em,ez,o4++([(⟨oo,oa,ob,oc,on⟩:InsT)]:List InsT),k4,_,(fT (fT (fT (fT (fT (et) a9) bb) bk) bl) ch),(HS.only ay (i:=5) V),V,bt,(oth0 h2 h3 h4 ho ha hb hc hn ht X)⟩
theorem expand_c{bb bk}(iv:VInT){cc ci bl bz}(a:AllT)(hs:Hb H F H [] R)(pV:in64 iv.i.op)(pW:in64 iv.i.a)(pX:in64 iv.i.b)(pY:in64 iv.i.c)(pZ:in64 iv.i.n)(ag:Sr F bb iv.args bk)(N:Sr F bl a.l bz)(c7:Sr F cc a.p ci)(qw:in64 a.k)(hT:TB 37 tabC F)(r6:iv.args.length<=1048576):kKt ex 45 [(aG [iv.i.op,iv.i.a,iv.i.b,iv.i.c,iv.i.n,(sL bb iv.args.length bk)]),(aG [(sL bl a.l.length bz),(sL cc a.p.length ci),a.k])] H fun v H'=> ∃ar,∃(kr:Nat) (r:List InsT),∃p F',F.le F'/\Hb H F' H' [p] R/\v=sL ar r.length kr/\OZ F' ar r kr p/\r=lY iv a.l:=by
 have tp:=sr_len (v:=iv);refine aB Tryz.func45 V V (am 1 V (ab (aT (aN hs V V) V V ?_)));rintro _ H2 _ ⟨b1,rfl,pz,_⟩;refine aT (aN pz V V) V V ?_;rintro _ H4 _ ⟨b3,rfl,it,_⟩;let hv:Value:=(aG [iv.i.op,iv.i.a,iv.i.b,iv.i.c,iv.i.n])
 refine za N_ (ae 2 V (ab (aS 2 0 14 15 [] [(15,hv)] (Hr_ 1 0 Hn_) it V V fun _=>zn it V fun b6 H7 pA=>sgo 1 3 1 0 [] [] (Hr_ 3 2 Hn_) pA V V fun rn H8 c5=>?_)));refine ae 3 V (aU 1 16 19 [] [(19,(!(alV iv.i.op)))] (Hr_ 1 2 (Hc_ 2 (lalw_c_q ex iv.i.op H8) Hn_)) c5 V V fun _=>zI 1 3 (fun ik=>?_) fun ik=>?_)
 ·refine wT 1 [] 4 4 [] [(4,N_)] V fun _=>ak ⟨.inr V,_,V,none,0,([]:List InsT),[],_,fR,(HS.cons (HS.forget c5)),V,(OS.nil:OS _ _ _ []),(exp_no (fun h=>by simp_all))⟩
 have al:=ik;let i4:Value:=(aG [iv.i.op,iv.i.a,iv.i.b,iv.i.c,iv.i.n,(sL bb iv.args.length bk)])
 refine aC V (cN 1 20 20 [] [(20,i4)] (Hr_ 0 0 Hn_) c5 V V fun _=>aQ (W:=[]) (aP V V V) V V V (ma.np ex iv (HS.call c5.log0) M M M M M ag hT M) (kb V) ?_);rintro _ pd ⟨qo,qx,rB,rv,qI,aa,a3,rfl,c8,rfl⟩;refine⟨Wr.did a3.log,fun oE hK=>?_⟩;replace a3:=HS.back c5.log0 V a3;replace a3:=HS.lg a3 c5 hK;generalize ({pd with log:=oE}:Heap)=qh at a3⊢;replace hT:=hT.mono aa;replace ag:=ag.mono aa;refine bj (v:=i4) (id:= .l b1) (gw (i:=0) V V V (HS.hc a3.log0 (i:=0) V) V V V) V V (gf V) (⟨.inr a0g,q_⟩) (aQ (W:=[]) (aP V V V) V V V (ma.iy ex iv (HS.call a3.log0) M M M M M ag hT) (kb V) ?_);rintro _ pe ⟨qp,qy,rD,ht,pc,T,a8,rfl,hR,rfl⟩;refine⟨Wr.did a8.log,fun oF hL=>?_⟩;replace a8:=HS.back a3.log0 V a8;replace a8:=HS.lg a8 a3 hL;generalize ({pe with log:=oF}:Heap)=qj at a8⊢;replace hT:=hT.mono T;replace N:=(N.mono aa).mono T;replace c7:=(c7.mono aa).mono T;replace ag:=ag.mono T;replace c8:=c8.mono T;refine zad 3 c8 a8 (OS.sv hR a8 (i:=4) V) V V V M (kb V) fun pf pB hu fd d2 A=>bj (v:=(iI (((aE iv)++(ah iv)).length:Int))) (id:= .v) (od (α:=Int) V V (OS.sv d2 A.log0 (i:=3) V)) V V (nP V) (jg _) (zfm (iI 0) (aW 2 V (aj (fun(mm:Nat) f H'=> ∃(k:Nat),H'=fd/\aA f [(2,(pT b1 0)),(3,(pT b3 0)),(5,(pT b6 0)),(24,(sL pf ((aE iv)++(ah iv)).length pB)),(25,(((aE iv)++(ah iv)).length:Int)),(26,(k:Int))]/\mm=(aE iv++ah iv).length-k/\(k<=(aE iv++ah iv).length)/\(∀j,j<k->0<=(aE iv++ah iv).getD j 0/\(aE iv++ah iv).getD j 0<(a.l.length:Int))) _ ⟨0,V,f_,V,M,(fun j hj=>absurd hj (a0D _))⟩ ?_)))
 rintro qz rj fd ⟨k,rfl,f9,rfl,h1,h2⟩ oz;refine au _ f9 (fun _=>?_);clear f9;have tl:(aE iv++ah iv).length<=1048580:=by rw[a02];omega
 refine am 1 V (wT 2 [] 27 27 [] [(27,(decide ((k:Int)<(((aE iv)++(ah iv)).length:Int))))] V fun _=>zd 4 5 (fun pi=>?_) fun pi=>?_)
 ·obtain⟨qq,hh⟩:=Sv.view (OS.sv d2 A (i:=3) V);have rl:=fI (hh k);refine wrp 2 28 29 [7] [(7,(((aE iv)++(ah iv)).getD k 0))] (Ha_ (Sv.ix (j:=(k:Int)) (OS.sv d2 A (i:=3) V)) (Hl_ 1 (ql 3 0 (vI (hh k)) V V) Hn_)) K_ V fun _=>wrp 1 30 38 [] [(38,((decide ((((aE iv)++(ah iv)).getD k 0)<0))||(decide ((a.l.length:Int)<=(((aE iv)++(ah iv)).getD k 0)))))] (bp 5 (fun _=>(ql 29 0 (i_ A V) V V)) Hn_) V V fun _=>zI 1 2 (fun pj=>?_) fun pj=>?_
  ·refine wT 1 [] 4 4 [] [(4,N_)] V fun _=>ak ⟨.inr V,_,V,none,0,([]:List InsT),[],_,(fT (aa) T),(HS.cons (HS.forget A)),V,(OS.nil:OS _ _ _ []),(exp_no (fun h=>rng_no V (k:=k) M M h.2))⟩
  refine wU 1 [] 26 26 [39] [(26,(iI ((k:Int)+1)))] (vi (n:=(k:Int)+1)) V fun _=>?_
  refine oz _ _ _ ?_ ⟨k+1,V,f_,V,M,(fun j hj=>by(rcases a0k j k with h|h;exact h2 j h;rw[show j=k by omega];omega))⟩;omega
 have a0:rngV iv a.l.length:=rng_all V M h2;have rf:=rng_of al a0;refine wT 3 [] 1 0 [8] [(8,N_)] V fun _=>aU 3 40 41 [] [(41,iv.i.op)] (Hr_ 1 2 Hn_) A V V fun _=>wT 1 [] 42 43 [] [(42,(iv.i.op==6))] V fun _=>zI 2 1 (fun f2=>?_) fun f2=>?_
 ·have h6:=f2;have hA:=rf.a (.inr (.inr (.inl h6)));refine aU 2 44 47 [] [(45,(sL bb iv.args.length bk)),(46,(iv.args.length:Int)),(47,(iI 0))] (Hr_ 1 0 Hn_) A V V fun _=>?_
  have ob:=HS.snoc A;let hw:Fp:=(fP b1 [iv.i.op,iv.i.a,iv.i.b,iv.i.c,iv.i.n,(sL bb iv.args.length bk)])
  let hz:Fp:=(fP b3 [(sL bl a.l.length bz),(sL cc a.p.length ci),a.k])
  let hC:Fp:=(fP b6 [iv.i.op,iv.i.a,iv.i.b,iv.i.c,iv.i.n])
  refine aj (fun(mm:Nat) f H'=> ∃(Z:List InsT) (k2:Nat),∃U,∃(a_:Nat),∃b8 F',pc.le F'/\Hb H F' H' [hw,hz,hC,hu,ht,b8] R/\OZ F' U Z a_ b8/\aA f [(2,(pT b1 0)),(3,(pT b3 0)),(5,(pT b6 0)),(8,(sL U Z.length a_)),(45,(sL bb iv.args.length bk)),(46,(iv.args.length:Int)),(47,(k2:Int))]/\mm=iv.args.length-k2/\(Z=jX a.l iv.args k2)/\(k2<=iv.args.length)) _ ⟨([]:List InsT),0,none,0,[],_,fR,ob,(OS.nil:OS _ N_ ([]:List InsT) []),f_,V,m_,M⟩ ?_;rintro qA rk qP ⟨Z,k2,U,a_,b8,h8,ch,a9,av,go,rfl,g1,g2⟩ oD;refine au _ go (fun _=>?_);clear go;replace hT:=hT.mono ch;replace N:=N.mono ch;replace ag:=ag.mono ch;have tn:Z.length<=k2:=by rw[g1];exact kB _
  refine am 1 V (wT 2 [] 48 48 [] [(48,(decide ((k2:Int)<(iv.args.length:Int))))] V fun _=>zd 4 5 (fun pm=>?_) fun pm=>?_)
  ·have hg:=rf.g h6 k2 M;obtain⟨qr,hk⟩:=Sv.view (SR.sv ag a9);have rm:=fI (hk k2);refine wrp 1 49 51 [9,10] [(9,(k2:Int)),(10,(iv.args.getD k2 0))] (Ha_ (Sv.ix (j:=(k2:Int)) (SR.sv ag a9)) (Hl_ 2 (ql 3 0 (vI (hk k2)) V V) Hn_)) K_ V fun _=>ab ?_
   obtain⟨qs,hl⟩:=Sv.view (SR.sv N a9);have pP:=LocT.fx (hl (iv.args.getD k2 0).toNat);refine aS 7 0 52 58 [] [(52,(sL U Z.length a_)),(53,(k2:Int)),(58,(aG [(.bool (a.l.getD (iv.args.getD k2 0).toNat v_).inS),(a.l.getD (iv.args.getD k2 0).toNat v_).x]))] (Hr_ 3 1 (Ha_ (Sv.ix (j:=(iv.args.getD k2 0)) (SR.sv N a9)) (Hl_ 6 (qn 39 0 2 (LocT.vw (hl (iv.args.getD k2 0).toNat)) V V V V) Hn_))) a9 V V fun _=>zc (R:=fun v H'=> ∃(o3:List InsT),∃ap,∃(aw:Nat),∃a1 F',h8.le F'/\Hb H F' H' [hw,hz,hC,hu,ht,a1] R/\OZ F' ap o3 aw a1/\v=(sL ap o3.length aw)/\(o3=Z++eQ (k2:Int) (a.l.getD (iv.args.getD k2 0).toNat v_).inS (a.l.getD (iv.args.getD k2 0).toNat v_).x)) ?_ ?_
   ·refine aB Tryz.func89 V V (am 1 V (ab (aT (aN a9 V V) V V ?_)));rintro _ qR _ ⟨rh,rfl,a5,_⟩;refine za N_ (ae 4 V (aU 1 7 9 [] [(7,(.bool (a.l.getD (iv.args.getD k2 0).toNat v_).inS))] (Hr_ 1 6 Hn_) a5 V V fun _=>zI 1 1 (fun pn=>?_) fun pn=>?_))
    ·refine ab (aS 4 0 10 13 [] [(10,(sL U Z.length a_)),(11,(k2:Int)),(13,(a.l.getD (iv.args.getD k2 0).toNat v_).x)] (Hr_ 3 6 Hn_) a5 V V fun _=>zc (iN ex (k2:Int) (a.l.getD (iv.args.getD k2 0).toNat v_).x (HS.call a5) M M hT) ?_);rintro _ qS ⟨rE,qK,f5,em,rfl,oM,oO,oP,oQ,oR,rfl⟩;replace em:=HS.back a5 V em;replace av:=av.mono f5;refine zlo ([(⟨36,(k2:Int),0,0,(a.l.getD (iv.args.getD k2 0).toNat v_).x⟩:InsT)]:List InsT) em V (RL.cs ⟨V,M,M,M,M,M⟩ RL.nl) V fun q8 rp rx qT m0 g9=>zao 5 av g9 (OS.sv m0 g9 (i:=7) V) V V V M fun h9 iz pC qU nm oh=>za (sL h9 (Z++([(⟨36,(k2:Int),0,0,(a.l.getD (iv.args.getD k2 0).toNat v_).x⟩:InsT)]:List InsT)).length iz) (ae 1 V (ak ⟨.inr V,_,V,Z++([(⟨36,(k2:Int),0,0,(a.l.getD (iv.args.getD k2 0).toNat v_).x⟩:InsT)]:List InsT),h9,iz,pC,_,(f5),(HS.sub oh (a01 _ _)),nm,V,(fet1 X)⟩))
    refine aU 1 17 21 [] [(17,((a.l.getD (iv.args.getD k2 0).toNat v_).x !=(k2:Int)))] (Hr_ 1 6 Hn_) a5 V V fun _=>zI 1 3 (fun pq=>?_) fun pq=>?_
    ·refine ab (aS 4 0 22 25 [] [(22,(sL U Z.length a_)),(23,(k2:Int)),(25,(a.l.getD (iv.args.getD k2 0).toNat v_).x)] (Hr_ 3 6 Hn_) a5 V V fun _=>zc (move_c ex (k2:Int) (a.l.getD (iv.args.getD k2 0).toNat v_).x (HS.call a5) M M hT) ?_);rintro _ qV ⟨rF,qL,f6,et,rfl,oT,oU,oV,oW,oX,rfl⟩;replace et:=HS.back a5 V et;replace av:=av.mono f6;refine zlo ([(⟨10,(k2:Int),(a.l.getD (iv.args.getD k2 0).toNat v_).x,0,0⟩:InsT)]:List InsT) et V (RL.cs ⟨V,M,M,M,M,M⟩ RL.nl) V fun q9 rq ry qW nx ha=>zao 5 av ha (OS.sv nx ha (i:=7) V) V V V M fun ib i1 pD qX n1 ol=>za (sL ib (Z++([(⟨10,(k2:Int),(a.l.getD (iv.args.getD k2 0).toNat v_).x,0,0⟩:InsT)]:List InsT)).length i1) (ae 1 V (ak ⟨.inr V,_,V,Z++([(⟨10,(k2:Int),(a.l.getD (iv.args.getD k2 0).toNat v_).x,0,0⟩:InsT)]:List InsT),ib,i1,pD,_,(f6),(HS.sub ol (a01 _ _)),n1,V,(fet2 X X)⟩))
    refine wT 1 [] 6 6 [29] [(6,(sL U Z.length a_))] V fun _=>ak ⟨.inr V,_,V,Z,U,a_,b8,_,fR,(HS.sub a5 (a01 _ _)),av,V,(fet0 X M)⟩
   rintro _ qQ ⟨o3,ap,aw,a1,qJ,kl,oc,dt,rfl,g6⟩;refine za (sL ap o3.length aw) (ae 2 V (wU 1 [] 47 47 [60] [(47,(iI ((k2:Int)+1)))] (vi (n:=(k2:Int)+1)) V fun _=>?_));refine oD _ _ _ ?_ ⟨o3,k2+1,ap,aw,a1,_,(fT (ch) kl),oc,dt,f_,V,(by rw[g6,g1];rfl),M⟩;omega
  refine ab (aS 7 0 61 67 [] [(61,(sL U Z.length a_)),(67,(aG [(iI 6),(iv.args.length:Int),(iI 0),(iI 0),iv.i.n]))] (Hr_ 2 0 (Hr_ 5 2 Hn_)) a9 V V fun _=>zlo ([(⟨6,(iv.args.length:Int),0,0,iv.i.n⟩:InsT)]:List InsT) a9 V (RL.cs ⟨V,M,M,M,M,M⟩ RL.nl) V fun rc rr pE qY n2 hb=>zao 5 av hb (OS.sv n2 hb (i:=6) V) V V V M fun co c6 pF qZ bt ds=>za (sL co (Z++([(⟨6,(iv.args.length:Int),0,0,iv.i.n⟩:InsT)]:List InsT)).length c6) (ae 2 V ?_));refine ab ?_;obtain⟨qt,hm⟩:=Sv.view (SR.sv N ds);have pQ:=LocT.fx (hm iv.i.a.toNat);refine aS 7 0 70 76 [] [(70,(sL co (Z++([(⟨6,(iv.args.length:Int),0,0,iv.i.n⟩:InsT)]:List InsT)).length c6)),(76,(aG [(.bool (a.l.getD iv.i.a.toNat v_).inS),(a.l.getD iv.i.a.toNat v_).x]))] (Hr_ 2 1 (Hr_ 4 2 (Ha_ (Sv.ix (j:=iv.i.a) (SR.sv N ds)) (Hl_ 6 (qn 39 0 2 (LocT.vw (hm iv.i.a.toNat)) V V V V) Hn_)))) ds V V fun _=>zc (R:=fun v H'=> ∃(o3:List InsT),∃aq,∃(ax:Nat),∃a2 F',h8.le F'/\Hb H F' H' [hw,hz,hC,hu,ht,a2,pE] R/\OZ F' aq o3 ax a2/\v=(sL aq o3.length ax)/\(o3=(Z++([(⟨6,(iv.args.length:Int),0,0,iv.i.n⟩:InsT)]:List InsT))++savV (a.l.getD iv.i.a.toNat v_).inS (a.l.getD iv.i.a.toNat v_).x)) ?_ ?_
  ·refine aB Tryz.func90 V V (am 1 V (ab (aT (aN ds V V) V V ?_)));rintro _ q1 _ ⟨ri,rfl,a7,_⟩;refine za N_ (ae 4 V (aU 1 7 9 [] [(7,(.bool (a.l.getD iv.i.a.toNat v_).inS))] (Hr_ 1 7 Hn_) a7 V V fun _=>zI 1 1 (fun pu=>?_) fun pu=>?_))
   ·refine ab (aS 4 0 10 13 [] [(10,(sL co (Z++([(⟨6,(iv.args.length:Int),0,0,iv.i.n⟩:InsT)]:List InsT)).length c6)),(11,(iI 0)),(13,(a.l.getD iv.i.a.toNat v_).x)] (Hr_ 3 7 Hn_) a7 V V fun _=>zc (kQ ex (0) (a.l.getD iv.i.a.toNat v_).x (HS.call a7) M M hT) ?_);rintro _ q2 ⟨rG,qN,f7,ez,rfl,oY,oZ,o0,o2,o4,rfl⟩;replace ez:=HS.back a7 V ez;replace bt:=bt.mono f7;refine zlo ([(⟨37,(0:Int),0,0,(a.l.getD iv.i.a.toNat v_).x⟩:InsT)]:List InsT) ez V (RL.cs ⟨V,M,M,M,M,M⟩ RL.nl) V fun re rt rz q3 n3 he=>zao 5 bt he (OS.sv n3 he (i:=8) V) V V V M fun ih i2 pG q4 n4 ow=>za (sL ih ((Z++([(⟨6,(iv.args.length:Int),0,0,iv.i.n⟩:InsT)]:List InsT))++([(⟨37,(0:Int),0,0,(a.l.getD iv.i.a.toNat v_).x⟩:InsT)]:List InsT)).length i2) (ae 1 V (ak ⟨.inr V,_,V,(Z++([(⟨6,(iv.args.length:Int),0,0,iv.i.n⟩:InsT)]:List InsT))++([(⟨37,(0:Int),0,0,(a.l.getD iv.i.a.toNat v_).x⟩:InsT)]:List InsT),ih,i2,pG,_,(f7),(HS.sub ow (a01 _ _)),n4,V,(sav1 X)⟩))
   refine aU 1 17 21 [] [(17,((a.l.getD iv.i.a.toNat v_).x !=0))] (Hr_ 1 7 Hn_) a7 V V fun _=>zI 1 3 (fun pw=>?_) fun pw=>?_
   ·refine ab (aS 4 0 22 25 [] [(22,(sL co (Z++([(⟨6,(iv.args.length:Int),0,0,iv.i.n⟩:InsT)]:List InsT)).length c6)),(24,(a.l.getD iv.i.a.toNat v_).x),(25,(iI 0))] (Hr_ 2 7 Hn_) a7 V V fun _=>zc (move_c ex (a.l.getD iv.i.a.toNat v_).x (0) (HS.call a7) M M hT) ?_);rintro _ q5 ⟨rH,qO,f8,e0,rfl,o5,o6,o7,o8,o9,rfl⟩;replace e0:=HS.back a7 V e0;replace bt:=bt.mono f8;refine zlo ([(⟨10,(a.l.getD iv.i.a.toNat v_).x,(0:Int),0,0⟩:InsT)]:List InsT) e0 V (RL.cs ⟨V,M,M,M,M,M⟩ RL.nl) V fun rg ru rA q6 n5 hf=>zao 5 bt hf (OS.sv n5 hf (i:=8) V) V V V M fun ii i3 pH q7 n6 ox=>za (sL ii ((Z++([(⟨6,(iv.args.length:Int),0,0,iv.i.n⟩:InsT)]:List InsT))++([(⟨10,(a.l.getD iv.i.a.toNat v_).x,(0:Int),0,0⟩:InsT)]:List InsT)).length i3) (ae 1 V (ak ⟨.inr V,_,V,(Z++([(⟨6,(iv.args.length:Int),0,0,iv.i.n⟩:InsT)]:List InsT))++([(⟨10,(a.l.getD iv.i.a.toNat v_).x,(0:Int),0,0⟩:InsT)]:List InsT),ii,i3,pH,_,(f8),(HS.sub ox (a01 _ _)),n6,V,(sav2 X X)⟩))
   refine wT 1 [] 6 6 [29] [(6,(sL co (Z++([(⟨6,(iv.args.length:Int),0,0,iv.i.n⟩:InsT)]:List InsT)).length c6))] V fun _=>ak ⟨.inr V,_,V,Z++([(⟨6,(iv.args.length:Int),0,0,iv.i.n⟩:InsT)]:List InsT),co,c6,pF,_,fR,(HS.sub a7 (a01 _ _)),bt,V,(sav0 X M)⟩
  rintro _ q0 ⟨o3,aq,ax,a2,qM,kn,oo,dv,rfl,g6⟩;refine za (sL aq o3.length ax) (ae 1 V (ak ⟨.inr V,_,V,aq,ax,o3,a2,_,(fT (fT (fT (aa) T) ch) kn),(HS.only oo (i:=5) V),V,dv,(by rw[g6,g1,show k2=iv.args.length by omega];exact exp_6 al a0 h6)⟩))
 have h6:=f2;refine wT 1 [] 78 79 [] [(78,(iv.i.op==10))] V fun _=>zI 1 1 (fun f3=>?_) fun f3=>?_
 ·have b9:=f3;have hA:=rf.a (.inr (.inl (by rw[b9];rfl)));have hB:=rf.b (by rw[b9];rfl);refine aC V (zp 0 (zl 0 (HS.hc A.log0 (i:=1) V) (zp 1 (zl 1 (HS.hc A.log0 (i:=2) V) (zy LocT iv.i.a (SR.sv N A.log0) ?_)))));obtain⟨qu,n7,ko⟩:=Sv.at (SR.sv N A.log0) (aO (x:=v_) (show iv.i.a.toNat<a.l.length from by omega));obtain⟨rfl,pR⟩:=n7;refine bj (v:=(aG [(.bool (a.l.getD iv.i.a.toNat v_).inS),(a.l.getD iv.i.a.toNat v_).x])) (id:= .l (sB (sL bl a.l.length bz))) (gw (i:=0) V V V ko V V V) V V (gf V) (kb V) (zp 0 (zl 0 (HS.hc A.log0 (i:=1) V) (zp 2 (zl 2 (HS.hc A.log0 (i:=2) V) (zy LocT iv.i.b (SR.sv N A.log0) ?_)))));obtain⟨qv,oa,kp⟩:=Sv.at (SR.sv N A.log0) (aO (x:=v_) (show iv.i.b.toNat<a.l.length from by omega));obtain⟨rfl,pS⟩:=oa;refine bj (v:=(aG [(.bool (a.l.getD iv.i.b.toNat v_).inS),(a.l.getD iv.i.b.toNat v_).x])) (id:= .l (sB (sL bl a.l.length bz))) (gw (i:=0) V V V kp V V V) V V (gf V) (kb V) (znD A V fun pg qm oy=>znD oy V fun ph pI b5=>gc (id:= .x [pg]) (rs_rec (q:=5) b5.log0 V V V V V V V V V) V (by rintro _ _ _ ⟨_,hwr⟩;exact dh V V (Wr.did hwr)) (⟨.inl V,.inl V,.inr (SR.nin N b5 (i:=5) (j:=0) V M),.inr trivial,.inr (HS.nin b5 (i:=2) (j:=5) V V e_ (List.Mem.head _)),.inr trivial,.inr (HS.nin b5 (i:=1) (j:=5) V V e_ (List.Mem.head _)),q_⟩) ?_);rintro _ i5 _ ⟨b7,_⟩ h3 gt;replace b7:=HS.lg b7 b5 gt;generalize ({i5 with log:=h3}:Heap)=pJ at b7⊢;refine gc (id:= .x [ph]) (rs_rec (q:=6) b7.log0 V V V V V V V V V) V (by rintro _ _ _ ⟨_,hwr⟩;exact dh V V (Wr.did hwr)) (kb V) ?_;rintro _ jb _ ⟨E,_⟩ h4 g3;replace E:=HS.lg E b7 g3;generalize ({jb with log:=h4}:Heap)=pK at E⊢;refine gM (am 3 V (aU 1 92 95 [] [(92,(((a.l.getD iv.i.a.toNat v_).inS==(a.l.getD iv.i.b.toNat v_).inS)&&(((a.l.getD iv.i.a.toNat v_).x==(a.l.getD iv.i.b.toNat v_).x)&&true)))] (Hr_ 0 5 (Hr_ 1 6 (Ho_ 2 (.o (.bool (((a.l.getD iv.i.a.toNat v_).inS==(a.l.getD iv.i.b.toNat v_).inS)&&(((a.l.getD iv.i.a.toNat v_).x==(a.l.getD iv.i.b.toNat v_).x)&&true)))) (agEq (P:=Tryz.prog) (t:=39) (xs:=[(.bool (a.l.getD iv.i.a.toNat v_).inS),(a.l.getD iv.i.a.toNat v_).x]) (ys:=[(.bool (a.l.getD iv.i.b.toNat v_).inS),(a.l.getD iv.i.b.toNat v_).x]) (bs:=[((a.l.getD iv.i.a.toNat v_).inS==(a.l.getD iv.i.b.toNat v_).inS),((a.l.getD iv.i.a.toNat v_).x==(a.l.getD iv.i.b.toNat v_).x)]) V V V K_ K_ (.cons ⟨by decide,_,_,V,V,eqB V⟩ (.cons ⟨by decide,_,_,V,V,eqI V⟩ .nil))) Hn_))) E V V fun _=>zI 1 1 (fun kc=>?_) fun kc=>?_))
  ·refine wT 1 [] 4 4 [] [(4,N_)] V fun _=>ak ⟨.inr V,_,V,none,0,([]:List InsT),[],_,(fT (aa) T),(HS.cons (HS.forget E)),V,(OS.nil:OS _ _ _ []),(by rw[←exp_m al a0 b9];exact mov1 (loc_ext n_))⟩
  have il: ¬((atV a.l iv.i.a).inS=(atV a.l iv.i.b).inS/\(atV a.l iv.i.a).x=(atV a.l iv.i.b).x):=fun h=>by simp_all
  refine aU 1 96 103 [] [(96,((a.l.getD iv.i.b.toNat v_).inS&&(!(a.l.getD iv.i.a.toNat v_).inS)))] (Hr_ 1 6 (bp 4 (fun _=>(ql 4 0 (HS.hc E (i:=5) V) V V)) Hn_)) E V V fun _=>zI 1 1 (fun kd=>?_) fun kd=>?_
  ·refine ab (aS 4 0 104 107 [] [(105,(a.l.getD iv.i.a.toNat v_).x),(107,(a.l.getD iv.i.b.toNat v_).x)] (Hr_ 1 5 (Hr_ 3 6 Hn_)) E V V fun _=>zc (iN ex (a.l.getD iv.i.a.toNat v_).x (a.l.getD iv.i.b.toNat v_).x (HS.call E) M M hT) ?_);rintro _ p8 ⟨qD,p0,hE,c9,rfl,kx,ky,kz,k0,k3,rfl⟩;replace c9:=HS.back E V c9;refine zlo ([(⟨36,(a.l.getD iv.i.a.toNat v_).x,0,0,(a.l.getD iv.i.b.toNat v_).x⟩:InsT)]:List InsT) c9 V (RL.cs ⟨V,M,M,M,M,M⟩ RL.nl) V fun fi hn oG p9 hM hS=>za (sL fi ([(⟨36,(a.l.getD iv.i.a.toNat v_).x,0,0,(a.l.getD iv.i.b.toNat v_).x⟩:InsT)]:List InsT).length hn) (ae 1 V (ak ⟨.inr V,_,V,fi,hn,([(⟨36,(a.l.getD iv.i.a.toNat v_).x,0,0,(a.l.getD iv.i.b.toNat v_).x⟩:InsT)]:List InsT),oG,_,(fT (fT (aa) T) hE),(HS.only hS (i:=7) V),V,hM,(by rw[←exp_m al a0 b9];exact mov2 il X)⟩))
  refine aU 1 110 117 [] [(110,((a.l.getD iv.i.a.toNat v_).inS&&(!(a.l.getD iv.i.b.toNat v_).inS)))] (Hr_ 1 5 (bp 4 (fun _=>(ql 4 0 (HS.hc E (i:=6) V) V V)) Hn_)) E V V fun _=>zI 1 4 (fun kg=>?_) fun kg=>?_
  ·refine ab (aS 4 0 118 121 [] [(119,(a.l.getD iv.i.b.toNat v_).x),(121,(a.l.getD iv.i.a.toNat v_).x)] (Hr_ 1 6 (Hr_ 3 5 Hn_)) E V V fun _=>zc (kQ ex (a.l.getD iv.i.b.toNat v_).x (a.l.getD iv.i.a.toNat v_).x (HS.call E) M M hT) ?_);rintro _ qa ⟨qE,p2,hF,dd,rfl,k4,k5,k6,k7,k8,rfl⟩;replace dd:=HS.back E V dd;refine zlo ([(⟨37,(a.l.getD iv.i.b.toNat v_).x,0,0,(a.l.getD iv.i.a.toNat v_).x⟩:InsT)]:List InsT) dd V (RL.cs ⟨V,M,M,M,M,M⟩ RL.nl) V fun fj hp oH qb hO hV=>za (sL fj ([(⟨37,(a.l.getD iv.i.b.toNat v_).x,0,0,(a.l.getD iv.i.a.toNat v_).x⟩:InsT)]:List InsT).length hp) (ae 1 V (ak ⟨.inr V,_,V,fj,hp,([(⟨37,(a.l.getD iv.i.b.toNat v_).x,0,0,(a.l.getD iv.i.a.toNat v_).x⟩:InsT)]:List InsT),oH,_,(fT (fT (aa) T) hF),(HS.only hV (i:=7) V),V,hO,(by rw[←exp_m al a0 b9];exact mov3 X)⟩))
  have b4:iv.i.op≠38:=M
  refine ab (aS 2 0 148 149 [] [(148,hv),(149,(aG [(sL bl a.l.length bz),(sL cc a.p.length ci),a.k]))] (Hr_ 0 2 (Hr_ 1 1 Hn_)) E V V fun _=>zc (xop_c ex iv.i a (HS.call E) M M M M M N c7 M hT X X (fun h=>rf.a (h.elim .inl fun h=> .inr (.inl h))) (rf.b) (fun h=>rf.c ((inf4 al b4).1 h))) ?_);rintro _ qc ⟨e1,e5,qB,oI,p3,hG,dk,rfl,g7,rfl⟩;replace dk:=HS.back E V dk;refine za (sL e1 (jf (aI iv.i.op) iv.i a.l).length e5) (ae 1 V (ak ⟨.inr V,_,V,e1,e5,jf (aI iv.i.op) iv.i a.l,oI,_,(fT (fT (aa) T) hG),(HS.only dk (i:=7) V),V,g7,(by rw[←exp_m al a0 b9,←mov4 il n_ n_,vin_eq b4])⟩))
 have b9:=f3;refine wT 1 [] 124 125 [] [(124,(iv.i.op==38))] V fun _=>zI 1 3 (fun d1=>?_) fun d1=>?_
 ·have b4:=d1;have hA:=rf.a (.inr (.inr (.inr b4)));refine ab ?_;obtain⟨pO,e4⟩:=Sv.view (SR.sv N A);have px:=LocT.fx (e4 iv.i.a.toNat);refine aS 6 0 126 131 [] [(131,(aG [(.bool (a.l.getD iv.i.a.toNat v_).inS),(a.l.getD iv.i.a.toNat v_).x]))] (Hr_ 1 1 (Hr_ 3 2 (Ha_ (Sv.ix (j:=iv.i.a) (SR.sv N A)) (Hl_ 5 (qn 39 0 2 (LocT.vw (e4 iv.i.a.toNat)) V V V V) Hn_)))) A V V fun _=>zn A V fun j1 qd hW=>sgo 1 7 1 0 [] [] (Hr_ 7 5 Hn_) hW V V fun pU qe ay=>ae 2 V (aU 1 132 134 [] [(134,(!(a.l.getD iv.i.a.toNat v_).inS))] (Hr_ 1 5 Hn_) ay V V fun _=>zI 1 1 (fun ki=>?_) fun ki=>?_)
  ·refine ab (aS 4 0 135 138 [] [(136,(a.l.getD iv.i.a.toNat v_).x),(138,iv.i.n)] (Hr_ 1 5 (Hr_ 3 2 Hn_)) ay V V fun _=>zc (iN ex (a.l.getD iv.i.a.toNat v_).x iv.i.n (HS.call ay) M M hT) ?_);rintro _ qf ⟨qF,p4,hH,dl,rfl,k9,lf,ll,lr,lv,rfl⟩;replace dl:=HS.back ay V dl;refine zlo ([(⟨36,(a.l.getD iv.i.a.toNat v_).x,0,0,iv.i.n⟩:InsT)]:List InsT) dl V (RL.cs ⟨V,M,M,M,M,M⟩ RL.nl) V fun f0 hq oJ qg hP hX=>za (sL f0 ([(⟨36,(a.l.getD iv.i.a.toNat v_).x,0,0,iv.i.n⟩:InsT)]:List InsT).length hq) (ae 1 V (ak ⟨.inr V,_,V,f0,hq,([(⟨36,(a.l.getD iv.i.a.toNat v_).x,0,0,iv.i.n⟩:InsT)]:List InsT),oJ,_,(fT (fT (aa) T) hH),(HS.only hX (i:=6) V),V,hP,(par1 al a0 b4 X)⟩))
  refine aC V (cN 2 141 142 [] [(142,iv.i.n)] (Hr_ 1 2 Hn_) ay V V fun _=>aQ (W:=[]) (aP V V V) V V V (iN ex (5) iv.i.n (HS.call ay.log0) M M hT) (kb V) ?_);rintro _ jq ⟨qG,p5,e3,an,rfl,lz,l0,l1,l2,l3,rfl⟩;refine⟨Wr.did an.log,fun h5 g4=>?_⟩;replace an:=HS.back ay.log0 V an;replace an:=HS.lg an ay g4;generalize ({jq with log:=h5}:Heap)=pL at an⊢;replace hT:=hT.mono e3;refine zp 1 (bj (v:=(iI (a.l.getD iv.i.a.toNat v_).x)) (id:= .l j1) (fp (i:=1) V V (HS.hc an.log0 (i:=5) V) V V) V V (gf V) (⟨.inl V,.inr a0g,q_⟩) (aQ (W:=[]) (aP V V V) V V V (kQ ex (5) (a.l.getD iv.i.a.toNat v_).x (HS.call an.log0) M M hT) (kb V) ?_));rintro _ jw ⟨qH,p6,hI,a4,rfl,l4,l9,mk,mx,mI,rfl⟩;refine⟨Wr.did a4.log,fun h7 g5=>?_⟩;replace a4:=HS.back an.log0 V a4;replace a4:=HS.lg a4 an g5;generalize ({jw with log:=h7}:Heap)=pM at a4⊢;refine zld ([(⟨36,(5:Int),0,0,iv.i.n⟩:InsT),(⟨37,(5:Int),0,0,(a.l.getD iv.i.a.toNat v_).x⟩:InsT)]:List InsT) a4 V (RL.cs ⟨V,M,M,M,M,M⟩ (RL.cs ⟨V,M,M,M,M,M⟩ RL.nl)) V fun f1 hr oK pN hQ hY=>fa (sL f1 ([(⟨36,(5:Int),0,0,iv.i.n⟩:InsT),(⟨37,(5:Int),0,0,(a.l.getD iv.i.a.toNat v_).x⟩:InsT)]:List InsT).length hr) V V V (aW 1 V (ak ⟨.inr V,_,V,f1,hr,([(⟨36,(5:Int),0,0,iv.i.n⟩:InsT),(⟨37,(5:Int),0,0,(a.l.getD iv.i.a.toNat v_).x⟩:InsT)]:List InsT),oK,_,(fT (fT (fT (aa) T) e3) hI),(HS.only hY (i:=6) V),V,hQ,(par2 al a0 b4 n_)⟩))
 have b4:iv.i.op≠38:=d1;refine ab (aS 2 0 148 149 [] [(148,hv),(149,(aG [(sL bl a.l.length bz),(sL cc a.p.length ci),a.k]))] (Hr_ 0 2 (Hr_ 1 1 Hn_)) A V V fun _=>zc (xop_c ex iv.i a (HS.call A) M M M M M N c7 M hT X X (fun h=>rf.a (h.elim .inl fun h=> .inr (.inl h))) (rf.b) (fun h=>rf.c ((inf4 al b4).1 h))) ?_);rintro _ qi ⟨e2,e6,qC,oL,p7,hJ,dn,rfl,g8,rfl⟩;replace dn:=HS.back A V dn;refine za (sL e2 (jf (aI iv.i.op) iv.i a.l).length e6) (ae 1 V (ak ⟨.inr V,_,V,e2,e6,jf (aI iv.i.op) iv.i a.l,oL,_,(fT (fT (aa) T) hJ),(HS.only dn (i:=5) V),V,g8,(by rw[←exp_n al a0 h6 b9,vin_eq b4])⟩))
theorem rcall_c{ap av}(iv:VInT){a2 a5 a1 a4}(a:AllT)(hs:Hb H F H [] R)(fi:in64 iv.i.op)(fj:in64 iv.i.a)(f0:in64 iv.i.b)(f1:in64 iv.i.c)(f2:in64 iv.i.n)(aa:Sr F ap iv.args av)(Z:Sr F a1 a.l a4)(gt:Sr F a2 a.p a5)(g3:in64 a.k)(hT:TB 37 tabC F)(hJ:iv.args.length<=1048576)(hA:0<=iv.i.a/\iv.i.a<(a.l.length:Int))(hg: ∀k,k<iv.args.length->0<=iv.args.getD k 0/\iv.args.getD k 0<(a.l.length:Int)):kKt ex 78 [(aG [iv.i.op,iv.i.a,iv.i.b,iv.i.c,iv.i.n,(S_ ap iv.args av)]),(aG [(S_ a1 a.l a4),(S_ a2 a.p a5),a.k])] H fun v H'=> ∃ar,∃(kr:Nat) (r:List InsT),∃p F',F.le F'/\Hb H F' H' [p] R/\v=sL ar r.length kr/\OZ F' ar r kr p/\r=jX a.l iv.args iv.args.length++[(⟨6,(iv.args.length:Int),0,0,iv.i.n⟩:InsT)]++savV (atV a.l iv.i.a).inS (atV a.l iv.i.a).x:=by
 refine aB Tryz.func78 V V (am 1 V (ab (aT (aN hs V V) V V ?_)));rintro _ H2 _ ⟨b1,rfl,et,_⟩;refine aT (aN et V V) V V ?_;rintro _ H4 _ ⟨b3,rfl,ez,_⟩;refine za N_ (ae 2 V (wT 3 [] 1 0 [5] [(5,N_)] V fun _=>wT 2 [] 1 0 [6] [(6,(iI 0))] V fun _=>?_));have e0:=HS.snoc ez;refine aj (fun(mm:Nat) f H'=> ∃(A:List InsT) (k2:Nat),∃U,∃(a_:Nat),∃aw F',F.le F'/\Hb H F' H' [(fP b1 [iv.i.op,iv.i.a,iv.i.b,iv.i.c,iv.i.n,(S_ ap iv.args av)]),(fP b3 [(S_ a1 a.l a4),(S_ a2 a.p a5),a.k]),aw] R/\OZ F' U A a_ aw/\aA f [(2,(pT b1 0)),(3,(pT b3 0)),(5,(S_ U A a_)),(6,(k2:Int))]/\mm=iv.args.length-k2/\(A=jX a.l iv.args k2)/\(k2<=iv.args.length)) _ ⟨([]:List InsT),0,none,0,[],_,fR,e0,(OS.nil:OS _ N_ ([]:List InsT) []),f_,V,m_,M⟩ ?_;rintro ht f7 H7 ⟨A,k2,U,a_,aw,F7,an,N,ag,b8,rfl,g1,g2⟩ e1;refine au _ b8 (fun _=>?_);clear b8;replace hT:=hT.mono an;replace Z:=Z.mono an;replace aa:=aa.mono an;have ii:A.length<=k2:=by rw[g1];exact kB _
 refine am 2 V (aU 1 8 12 [] [(12,(decide ((k2:Int)<(iv.args.length:Int))))] (Hr_ 2 0 Hn_) N V V fun _=>zd 3 5 (fun d1=>?_) fun d1=>?_)
 ·have hn:=hg k2 M;have ih:=fH (to:=(k2:Int)) (b:=(a.l.getD (iv.args.getD k2 0).toNat v_).inS) (x:=(a.l.getD (iv.args.getD k2 0).toNat v_).x);refine aC V ?_;obtain⟨f6,bl⟩:=Sv.view (SR.sv aa N);have hm:=fI (bl k2);obtain⟨f8,bt⟩:=Sv.view (SR.sv Z N);have e6:=LocT.fx (bt (iv.args.getD k2 0).toNat);refine cN 11 15 25 [] [(15,(S_ U A a_)),(16,(k2:Int)),(25,(aG [(.bool (a.l.getD (iv.args.getD k2 0).toNat v_).inS),(a.l.getD (iv.args.getD k2 0).toNat v_).x]))] (Hr_ 3 1 (Hr_ 5 0 (Ha_ (Sv.ix (j:=(k2:Int)) (SR.sv aa N)) (Hl_ 8 (ql 3 0 (hc0 (vI (bl k2))) V V) (Ha_ (Sv.ix (j:=(iv.args.getD k2 0)) (SR.sv Z N)) (Hl_ 10 (qn 39 0 2 (hc0 (LocT.vw (bt (iv.args.getD k2 0).toNat))) V V V V) Hn_)))))) N V V fun _=>aQ (W:=[]) (aP V V V) V V V (gT ex (k2:Int) (a.l.getD (iv.args.getD k2 0).toNat v_) (HS.call N.log0) M M hT) (kb V) ?_
  rintro _ ds ⟨f5,g4,hB,hu,g5,a8,E,rfl,b4,rfl⟩;refine⟨Wr.did E.log,fun dn b2=>?_⟩;replace E:=HS.back N.log0 V E;replace E:=HS.lg E N b2;generalize ({ds with log:=dn}:Heap)=f3 at E⊢;replace ag:=ag.mono a8;refine zad 2 ag E (OS.sv b4 E (i:=3) V) V V V M (kb V) fun b5 b9 e2 f4 ci c9=>fa (sL b5 (A++(eQ (k2:Int) (a.l.getD (iv.args.getD k2 0).toNat v_).inS (a.l.getD (iv.args.getD k2 0).toNat v_).x)).length b9) V V V (aW 2 V (wU 1 [] 13 14 [6] [(6,(iI ((k2:Int)+1)))] (vi (n:=(k2:Int)+1)) V fun _=>?_))
  refine e1 _ _ _ ?_ ⟨A++(eQ (k2:Int) (a.l.getD (iv.args.getD k2 0).toNat v_).inS (a.l.getD (iv.args.getD k2 0).toNat v_).x),k2+1,b5,b9,e2,_,(fT (an) a8),(HS.sub c9 (a01 _ _)),ci,f_,V,(by rw[g1];rfl),M⟩;omega
 refine ab (aS 8 0 28 35 [] [(28,(S_ U A a_)),(35,(aG [(iI 6),(iv.args.length:Int),(iI 0),(iI 0),iv.i.n]))] (Hr_ 2 0 (Hr_ 6 0 Hn_)) N V V fun _=>zlo ([(⟨6,(iv.args.length:Int),0,0,iv.i.n⟩:InsT)]:List InsT) N V (RL.cs ⟨V,M,M,M,M,M⟩ RL.nl) V fun hh hp hv g6 co a9=>zao 2 ag a9 (OS.sv co a9 (i:=3) V) V V V M fun ax ay e3 g7 a3 aq=>za (sL ax (A++([(⟨6,(iv.args.length:Int),0,0,iv.i.n⟩:InsT)]:List InsT)).length ay) (ae 2 V ?_));refine ab ?_;obtain⟨f9,bz⟩:=Sv.view (SR.sv Z aq);have fd:=LocT.fx (bz iv.i.a.toNat);refine aS 7 0 38 44 [] [(44,(aG [(.bool (a.l.getD iv.i.a.toNat v_).inS),(a.l.getD iv.i.a.toNat v_).x]))] (Hr_ 1 1 (Hr_ 4 0 (Ha_ (Sv.ix (j:=iv.i.a) (SR.sv Z aq)) (Hl_ 6 (qn 39 0 2 (LocT.vw (bz iv.i.a.toNat)) V V V V) Hn_)))) aq V V fun _=>zn aq V fun hl g8 dd=>sgo 1 8 1 0 [] [] (Hr_ 8 4 Hn_) dd V V fun go g9 T=>ae 4 V (aU 1 45 47 [] [(45,(.bool (a.l.getD iv.i.a.toNat v_).inS))] (Hr_ 1 4 Hn_) T V V fun _=>zI 1 1 (fun d2=>?_) fun d2=>?_)
 ·refine ab (aS 4 0 48 51 [] [(48,(sL ax (A++([(⟨6,(iv.args.length:Int),0,0,iv.i.n⟩:InsT)]:List InsT)).length ay)),(51,(aG [(iI 37),(iI 0),(iI 0),(iI 0),(a.l.getD iv.i.a.toNat v_).x]))] (Hr_ 2 4 Hn_) T V V fun _=>zlo ([(⟨37,0,0,0,(a.l.getD iv.i.a.toNat v_).x⟩:InsT)]:List InsT) T V (RL.cs ⟨V,M,M,M,M,M⟩ RL.nl) V fun hj hq hw ha c5 bb=>zao 2 a3 bb (OS.sv c5 bb (i:=5) V) V V V M fun b6 cc e4 hb c6 dk=>za (sL b6 ((A++([(⟨6,(iv.args.length:Int),0,0,iv.i.n⟩:InsT)]:List InsT))++([(⟨37,0,0,0,(a.l.getD iv.i.a.toNat v_).x⟩:InsT)]:List InsT)).length cc) (ae 1 V ?_));refine ak ⟨.inr V,_,V,b6,cc,(A++([(⟨6,(iv.args.length:Int),0,0,iv.i.n⟩:InsT)]:List InsT))++([(⟨37,0,0,0,(a.l.getD iv.i.a.toNat v_).x⟩:InsT)]:List InsT),e4,_,(an),(HS.only dk (i:=2) V),V,c6,(by rw[g1,show k2=iv.args.length by omega];first|exact sav1 X|exact sav2 X X|exact sav0 X M)⟩
 refine aU 1 54 57 [] [(54,((a.l.getD iv.i.a.toNat v_).x !=0))] (Hr_ 1 4 Hn_) T V V fun _=>zI 1 3 (fun em=>?_) fun em=>?_
 ·refine ab (aS 4 0 58 61 [] [(58,(sL ax (A++([(⟨6,(iv.args.length:Int),0,0,iv.i.n⟩:InsT)]:List InsT)).length ay)),(61,(aG [(iI 10),(a.l.getD iv.i.a.toNat v_).x,(iI 0),(iI 0),(iI 0)]))] (Hr_ 2 4 Hn_) T V V fun _=>zlo ([(⟨10,(a.l.getD iv.i.a.toNat v_).x,0,0,0⟩:InsT)]:List InsT) T V (RL.cs ⟨V,M,M,M,M,M⟩ RL.nl) V fun hk hr hz he c7 bk=>zao 2 a3 bk (OS.sv c7 bk (i:=5) V) V V V M fun b7 ch e5 hf c8 dl=>za (sL b7 ((A++([(⟨6,(iv.args.length:Int),0,0,iv.i.n⟩:InsT)]:List InsT))++([(⟨10,(a.l.getD iv.i.a.toNat v_).x,0,0,0⟩:InsT)]:List InsT)).length ch) (ae 1 V ?_));refine ak ⟨.inr V,_,V,b7,ch,(A++([(⟨6,(iv.args.length:Int),0,0,iv.i.n⟩:InsT)]:List InsT))++([(⟨10,(a.l.getD iv.i.a.toNat v_).x,0,0,0⟩:InsT)]:List InsT),e5,_,(an),(HS.only dl (i:=2) V),V,c8,(by rw[g1,show k2=iv.args.length by omega];first|exact sav1 X|exact sav2 X X|exact sav0 X M)⟩
 refine wT 1 [] 4 4 [64] [(4,(sL ax (A++([(⟨6,(iv.args.length:Int),0,0,iv.i.n⟩:InsT)]:List InsT)).length ay))] V fun _=>ak ⟨.inr V,_,V,ax,ay,A++([(⟨6,(iv.args.length:Int),0,0,iv.i.n⟩:InsT)]:List InsT),e3,_,(an),(HS.only T (i:=2) V),V,a3,(by rw[g1,show k2=iv.args.length by omega];first|exact sav1 X|exact sav2 X X|exact sav0 X M)⟩
theorem roth_c(i:InsT){dv f2 dt f1}(a:AllT)(hs:Hb H F H [] R)(oJ:in64 i.op)(oK:in64 i.a)(oL:in64 i.b)(oM:in64 i.c)(oO:in64 i.n)(A:Sr F dt a.l f1)(oH:Sr F dv a.p f2)(oI:in64 a.k)(hT:TB 37 tabC F)(hA:(aD i.op).ra=true\/(aD i.op).wa=true->0<=i.a/\i.a<(a.l.length:Int))(hB:(aD i.op).rb=true->0<=i.b/\i.b<(a.l.length:Int))(hC:(aD i.op).f=4->0<=i.c/\i.c<(a.l.length:Int)):kKt ex 79 [(aG [i.op,i.a,i.b,i.c,i.n]),(aG [(sL dt a.l.length f1),(sL dv a.p.length f2),a.k])] H fun v H'=> ∃ar,∃(kr:Nat) (r:List InsT),∃p F',F.le F'/\Hb H F' H' [p] R/\v=sL ar r.length kr/\OZ F' ar r kr p/\r=if i.op=10 then movV i a.l else jf (aD i.op) i a.l:=by
 refine aB Tryz.func79 V V (am 1 V (ab (aT (aN hs V V) V V ?_)));rintro _ H2 _ ⟨b1,rfl,lf,_⟩;refine aT (aN lf V V) V V ?_;rintro _ H4 _ ⟨b3,rfl,hh,_⟩;refine za N_ (ae 2 V (ab (aS 2 0 11 12 [] [(12,i.op)] (Hr_ 1 0 Hn_) hh V V fun _=>zc (m3.nB ex i.op (HS.call hh) M hT) ?_)));rintro _ H6 ⟨x6,F6,bt,hj,rfl,k8,k9,rfl⟩;replace hj:=HS.back hh V hj;replace hT:=hT.mono bt;replace A:=A.mono bt;refine zn hj V fun b7 H8 ll=>sgo 1 4 1 0 [] [] (Hr_ 4 2 Hn_) ll V V fun p0 H9 lr=>ae 2 V (ab (zn lr V fun ax o7 iv=>zn iv V fun bk o8 iz=>?_))
 refine zn iz V fun a9 o9 hg=>ae 2 V (wT 2 [] 1 0 [9] [(9,N_)] V fun _=>ab (aS 3 0 14 16 [] [(16,(aG [i.op,(iI 0),(iI 0),(iI 0),(iI 0)]))] (Hr_ 1 0 Hn_) hg V V fun _=>zn hg V fun Z pc i1=>?_))
 let b9:Fp:=(fP b1 [i.op,i.a,i.b,i.c,i.n])
 let cc:Fp:=(fP b3 [(sL dt a.l.length f1),(sL dv a.p.length f2),a.k])
 let ch:Fp:=(fP b7 [(tX (aD i.op).name.b),(aD i.op).f,(.bool (aD i.op).ra),(.bool (aD i.op).wa),(.bool (aD i.op).rb),(.bool (aD i.op).mt),(aD i.op).w])
 let h7:Fp:=(fP bk [false,(iI 0)])
 let dn:Fp:=(fP a9 [false,(iI 0)])
 refine sgo 1 4 1 0 [] [] (Hr_ 4 6 Hn_) i1 V V fun oh pd c5=>ae 3 V (aU 1 17 24 [] [(24,(((aD i.op).f==5)||((aD i.op).f==7)))] (Hr_ 1 2 (bp 5 (fun _=>(ql 3 1 (j_ c5 V) V V)) Hn_)) c5 V V fun _=>ba (fun f H'=> ∃(on:Int),∃F',F6.le F'/\Hb H F' H' [b9,cc,ch,(fP ax [false,(iI 0)]),h7,dn,(fP Z [i.op,(iI 0),(iI 0),(iI 0),on])] R/\aA f [(2,(pT b1 0)),(3,(pT b3 0)),(5,(pT b7 0)),(6,(pT ax 0)),(7,(pT bk 0)),(8,(pT a9 0)),(9,N_),(10,(pT Z 0))]/\(on=oN (aD i.op) i)/\(in64 on)) (fun hv=>?_) ?_)
 ·refine zI 0 0 (fun kn=>?_) fun kn=>?_
  ·refine sgr 0 25 27 [] [] (Hr_ 1 0 (Hr_ 3 6 Hn_)) c5 V V fun ol pf i2=>?_
   exact hv _ _ ⟨i.n,_,fR,i2,f_,a_3,M⟩
  exact hv _ _ ⟨0,_,fR,c5,f_,a_3,M⟩
 skip;rintro pQ pe ⟨on,ka,ay,ez,g4,hn,rn⟩;refine au _ g4 (fun _=>?_);clear g4;replace hT:=hT.mono ay;replace A:=A.mono ay;refine am 3 V (aU 1 28 33 [] [(33,((aD i.op).ra||(aD i.op).wa))] (Hr_ 1 2 (bp 4 (fun _=>(ql 4 3 (j_ ez V) V V)) Hn_)) ez V V fun _=>?_);have c6:=HS.snoc ez;refine ba (fun f H'=> ∃(o2:List InsT) (oa:Int) (tb:Bool) (tx:Int),∃T,∃(a_:Nat),∃an F',ka.le F'/\Hb H F' H' [b9,cc,ch,(fP ax [tb,tx]),h7,dn,(fP Z [i.op,oa,(iI 0),(iI 0),on]),an] R/\OZ F' T o2 a_ an/\aA f [(2,(pT b1 0)),(3,(pT b3 0)),(5,(pT b7 0)),(6,(pT ax 0)),(7,(pT bk 0)),(8,(pT a9 0)),(9,(sL T o2.length a_)),(10,(pT Z 0))]/\(o2=aV (aD i.op) i a.l)/\(oa=oA (aD i.op) i a.l)/\((aD i.op).ra=true\/(aD i.op).wa=true->tb=(atV a.l i.a).inS/\tx=(atV a.l i.a).x)/\(in64 oa)/\(in64 tx)) (fun fd=>?_) ?_
 ·refine zI 1 0 (fun ko=>?_) fun ko=>?_
  ·have p2:=hA X;obtain⟨n1,hp⟩:=Sv.view (SR.sv A c6);have l3:=LocT.fx (hp i.a.toNat);let hG:Value:=(aG [(.bool (a.l.getD i.a.toNat v_).inS),(a.l.getD i.a.toNat v_).x])
   refine sgr 2 34 39 [] [] (Hr_ 1 1 (Hr_ 3 0 (Ha_ (Sv.ix (j:=i.a) (SR.sv A c6)) (Hl_ 5 (qn 39 0 2 (LocT.vw (hp i.a.toNat)) V V V V) (Hr_ 6 3 Hn_))))) c6 V V fun ow ph e0=>ab (aS 1 0 40 40 [] [(40,hG)] (Hr_ 0 3 Hn_) e0 V V fun _=>zc (iK ex (a.l.getD i.a.toNat v_) (5) (HS.call e0) M M hT) ?_)
   rintro _ pi ⟨qa,oX,d2,e1,rfl,rfl⟩;replace e1:=HS.back e0 V e1;replace hT:=hT.mono d2;refine sgo 2 2 42 42 [] [] (Hr_ 3 6 Hn_) e1 V V fun ox pj a5=>ae 2 V (aU 1 43 48 [] [(48,((aD i.op).ra&&(a.l.getD i.a.toNat v_).inS))] (Hr_ 1 2 (bp 4 (fun _=>(ql 4 0 (HS.hc a5 (i:=3) V) V V)) Hn_)) a5 V V fun _=>zI 0 0 (fun kp=>?_) fun kp=>?_)
   ·have pY:=fH (to:=5) (b:=(a.l.getD i.a.toNat v_).inS) (x:=(a.l.getD i.a.toNat v_).x);refine ab (aS 2 0 49 50 [] [(49,N_),(50,hG)] (Hr_ 1 3 Hn_) a5 V V fun _=>zc (gT ex (5) (a.l.getD i.a.toNat v_) (HS.call a5) M M hT) ?_);rintro _ pm ⟨m0,oQ,qb,p6,kd,h9,c7,rfl,hL,rfl⟩;replace c7:=HS.back a5 V c7;refine zao 7 (OS.nil:OS _ N_ ([]:List InsT) []) c7 (OS.sv hL c7 (i:=8) V) V V V M fun f7 hE h6 pn et i3=>?_
    have et:OS kd (sL f7 (eQ (5:Int) (a.l.getD i.a.toNat v_).inS (a.l.getD i.a.toNat v_).x).length hE) (eQ (5:Int) (a.l.getD i.a.toNat v_).inS (a.l.getD i.a.toNat v_).x) h6:=et;refine za (sL f7 (eQ (5:Int) (a.l.getD i.a.toNat v_).inS (a.l.getD i.a.toNat v_).x).length hE) (ae 0 V ?_);exact fd _ _ ⟨(eQ (5:Int) (a.l.getD i.a.toNat v_).inS (a.l.getD i.a.toNat v_).x),eX (a.l.getD i.a.toNat v_).inS (a.l.getD i.a.toNat v_).x (5:Int),(a.l.getD i.a.toNat v_).inS,(a.l.getD i.a.toNat v_).x,f7,hE,h6,_,(fT (d2) h9),(HS.sub i3 (a01 _ _)),et,f_,(by unfold aV;(repeat' split)<;>first|rfl|omega|simp_all[eQ]),(by unfold oA;(repeat' split)<;>first|rfl|omega|simp_all),(fun _=>⟨V,V⟩),(gk M M),X⟩
   exact fd _ _ ⟨([]:List InsT),eX (a.l.getD i.a.toNat v_).inS (a.l.getD i.a.toNat v_).x (5:Int),(a.l.getD i.a.toNat v_).inS,(a.l.getD i.a.toNat v_).x,none,0,[],_,(d2),a5,(OS.nil:OS _ N_ ([]:List InsT) []),f_,(by unfold aV;(repeat' split)<;>first|rfl|omega|simp_all[eQ]),(by unfold oA;(repeat' split)<;>first|rfl|omega|simp_all),(fun _=>⟨V,V⟩),(gk M M),X⟩
  exact fd _ _ ⟨([]:List InsT),0,false,0,none,0,[],_,fR,c6,(OS.nil:OS _ N_ ([]:List InsT) []),f_,(by unfold aV;(repeat' split)<;>first|rfl|omega|simp_all[eQ]),(by unfold oA;(repeat' split)<;>first|rfl|omega|simp_all),(fun h=>absurd h n_),M,M⟩
 skip;rintro pR pg ⟨o2,oa,tb,tx,T,a_,an,kc,a1,bz,N,g5,h2,ha,ht,ra,rx⟩;refine au _ g5 (fun _=>?_);clear g5;replace hT:=hT.mono a1;replace A:=A.mono a1;have n2:o2.length<=1:=by rw[h2];exact lenA
 let b8:Fp:=(fP ax [tb,tx])
 refine am 3 V (aU 1 53 54 [] [(54,(.bool (aD i.op).rb))] (Hr_ 1 2 Hn_) bz V V fun _=>ba (fun f H'=> ∃(ob:Int) (ub:Bool) (ux:Int),∃F',kc.le F'/\Hb H F' H' [b9,cc,ch,b8,(fP bk [ub,ux]),dn,(fP Z [i.op,oa,ob,(iI 0),on]),an] R/\aA f [(2,(pT b1 0)),(3,(pT b3 0)),(5,(pT b7 0)),(6,(pT ax 0)),(7,(pT bk 0)),(8,(pT a9 0)),(9,(sL T o2.length a_)),(10,(pT Z 0))]/\(ob=oB (aD i.op) i a.l)/\((aD i.op).rb=true->ub=(atV a.l i.b).inS/\ux=(atV a.l i.b).x)/\(in64 ob)/\(in64 ux)) (fun hw=>?_) ?_)
 ·refine zI 1 0 (fun kx=>?_) fun kx=>?_
  ·have p3:=hB X;obtain⟨n5,hq⟩:=Sv.view (SR.sv A bz);have l4:=LocT.fx (hq i.b.toNat);refine sgr 1 55 60 [] [] (Hr_ 1 1 (Hr_ 3 0 (Ha_ (Sv.ix (j:=i.b) (SR.sv A bz)) (Hl_ 5 (qn 39 0 2 (LocT.vw (hq i.b.toNat)) V V V V) (Hr_ 6 4 Hn_))))) bz V V fun oy pu e2=>ab (aS 1 0 61 61 [] [(61,(aG [(.bool (a.l.getD i.b.toNat v_).inS),(a.l.getD i.b.toNat v_).x]))] (Hr_ 0 4 Hn_) e2 V V fun _=>zc (iK ex (a.l.getD i.b.toNat v_) (6) (HS.call e2) M M hT) ?_)
   rintro _ pw ⟨qc,oY,ib,e3,rfl,rfl⟩;replace e3:=HS.back e2 V e3;refine sgo 2 2 63 63 [] [] (Hr_ 3 6 Hn_) e3 V V fun oz px i4=>ae 0 V ?_
   exact hw _ _ ⟨eX (a.l.getD i.b.toNat v_).inS (a.l.getD i.b.toNat v_).x (6:Int),(a.l.getD i.b.toNat v_).inS,(a.l.getD i.b.toNat v_).x,_,(ib),i4,f_,(by unfold oB;(repeat' split)<;>first|rfl|omega|simp_all),(fun _=>⟨V,V⟩),(gk M M),X⟩
  exact hw _ _ ⟨0,false,0,_,fR,bz,f_,(by unfold oB;(repeat' split)<;>first|rfl|omega|simp_all),(fun h=>absurd h n_),M,M⟩
 skip;rintro pS pq ⟨ob,ub,ux,kg,ap,E,g6,hb,hu,rb,rux⟩;refine au _ g6 (fun _=>?_);clear g6;replace hT:=hT.mono ap;replace A:=A.mono ap;replace N:=N.mono ap;let dd:Fp:=(fP bk [ub,ux])
 let hH:Fp:=(fP Z [i.op,oa,ob,(iI 0),on])
 refine am 3 V (aU 1 64 66 [] [(66,(i.op==10))] (Hr_ 1 0 Hn_) E V V fun _=>ba (fun f H'=> ∃F',kg.le F'/\Hb H F' H' [b9,cc,ch,b8,dd,dn,hH,an] R/\aA f [(2,(pT b1 0)),(3,(pT b3 0)),(5,(pT b7 0)),(6,(pT ax 0)),(7,(pT bk 0)),(8,(pT a9 0)),(9,(sL T o2.length a_)),(10,(pT Z 0))]/\(i.op=10->movV i a.l=jf (aD i.op) i a.l)) (fun hz=>?_) ?_)
 ·refine zI 2 0 (fun hW=>?_) fun hW=>?_
  ·have dl:=hW;have ru:=ht (by rw[dl];exact .inr V);have qy:=hu (by rw[dl];rfl);refine aU 1 67 70 [] [(67,((tb==ub)&&((tx==ux)&&true)))] (Hr_ 0 3 (Hr_ 1 4 (Ho_ 2 (.o (.bool ((tb==ub)&&((tx==ux)&&true)))) (agEq (P:=Tryz.prog) (t:=39) (xs:=[tb,tx]) (ys:=[ub,ux]) (bs:=[(tb==ub),(tx==ux)]) V V V K_ K_ (.cons ⟨by decide,_,_,V,V,eqB V⟩ (.cons ⟨by decide,_,_,V,V,eqI V⟩ .nil))) Hn_))) E V V fun _=>zI 1 1 (fun ky=>?_) fun ky=>?_
   ·refine wT 1 [] 4 4 [] [(4,N_)] V fun _=>ak ⟨.inr V,_,V,none,0,([]:List InsT),[],_,(fT (fT (fT (bt) ay) a1) ap),(HS.cons (HS.forget E)),V,(OS.nil:OS _ _ _ []),(by rw[if_pos dl];exact mov1 (loc_ext n_))⟩
   have hX: ¬((atV a.l i.a).inS=(atV a.l i.b).inS/\(atV a.l i.a).x=(atV a.l i.b).x):=fun h=>by simp_all
   refine aU 1 71 78 [] [(71,(ub&&(!tb)))] (Hr_ 1 4 (bp 4 (fun _=>(ql 4 0 (HS.hc E (i:=3) V) V V)) Hn_)) E V V fun _=>zI 1 1 (fun kz=>?_) fun kz=>?_
   ·refine ab (aS 3 0 79 81 [] [(80,tx),(81,(aG [ub,ux]))] (Hr_ 1 3 (Hr_ 2 4 Hn_)) E V V fun _=>zc (gT ex tx (⟨ub,ux⟩:LocT) (HS.call E) M M hT) ?_);rintro _ pz ⟨f8,hF,qd,lv,oZ,ih,e4,rfl,hM,rfl⟩;replace e4:=HS.back E V e4;refine za (sL f8 (eQ tx (⟨ub,ux⟩:LocT).inS (⟨ub,ux⟩:LocT).x).length hF) (ae 1 V (ak ⟨.inr V,_,V,f8,hF,eQ tx (⟨ub,ux⟩:LocT).inS (⟨ub,ux⟩:LocT).x,lv,_,(fT (fT (fT (fT (bt) ay) a1) ap) ih),(HS.only e4 (i:=8) V),V,hM,(by rw[if_pos dl];rw[←mov2 hX n_];unfold eQ;simp_all)⟩))
   refine aU 1 83 90 [] [(83,(tb&&(!ub)))] (Hr_ 1 3 (bp 4 (fun _=>(ql 4 0 (HS.hc E (i:=4) V) V V)) Hn_)) E V V fun _=>zI 1 1 (fun k0=>?_) fun k0=>?_
   ·refine ab (aS 5 0 91 95 [] [(95,(aG [(iI 37),ux,(iI 0),(iI 0),tx]))] (Hr_ 1 4 (Hr_ 3 3 Hn_)) E V V fun _=>zlo ([(⟨37,ux,0,0,tx⟩:InsT)]:List InsT) E V (RL.cs ⟨V,M,M,M,M,M⟩ RL.nl) V fun hR hY lz pA ii i5=>za (sL hR ([(⟨37,ux,0,0,tx⟩:InsT)]:List InsT).length hY) (ae 1 V (ak ⟨.inr V,_,V,hR,hY,([(⟨37,ux,0,0,tx⟩:InsT)]:List InsT),lz,_,(fT (fT (fT (bt) ay) a1) ap),(HS.only i5 (i:=8) V),V,ii,(by rw[if_pos dl,←mov3 n_];simp_all)⟩)))
   exact hz _ _ ⟨_,fR,E,f_,(fun _=>(mov4 hX n_ n_).symm)⟩
  exact hz _ _ ⟨_,fR,E,f_,(fun h=>absurd h X)⟩
 skip;rintro pU py ⟨ki,bl,a7,g7,hm⟩;refine au _ g7 (fun _=>?_);clear g7;replace hT:=hT.mono bl;replace A:=A.mono bl;replace N:=N.mono bl;refine am 3 V (aU 1 97 102 [] [(102,((aD i.op).rb&&ub))] (Hr_ 1 2 (bp 4 (fun _=>(ql 4 0 (HS.hc a7 (i:=4) V) V V)) Hn_)) a7 V V fun _=>ba (fun f H'=> ∃(o3:List InsT),∃aa,∃(ag:Nat),∃aw F',ki.le F'/\Hb H F' H' [b9,cc,ch,b8,dd,dn,hH,aw] R/\OZ F' aa o3 ag aw/\aA f [(2,(pT b1 0)),(3,(pT b3 0)),(5,(pT b7 0)),(6,(pT ax 0)),(8,(pT a9 0)),(9,(sL aa o3.length ag)),(10,(pT Z 0))]/\(o3=o2++bV (aD i.op) i a.l)) (fun hD=>?_) ?_)
 ·refine zI 0 0 (fun k3=>?_) fun k3=>?_
  ·have qy:=hu n_;have pZ:=fH (to:=6) (b:=ub) (x:=ux);refine ab (aS 2 0 103 104 [] [(103,(sL T o2.length a_)),(104,(aG [ub,ux]))] (Hr_ 1 4 Hn_) a7 V V fun _=>zc (gT ex (6) (⟨ub,ux⟩:LocT) (HS.call a7) M M hT) ?_);rintro _ pC ⟨nm,oR,qe,p7,o0,g1,c8,rfl,hO,rfl⟩;replace c8:=HS.back a7 V c8;replace N:=N.mono g1;refine zao 7 N c8 (OS.sv hO c8 (i:=8) V) V V V M fun hS h1 l0 pD ik jb=>za (sL hS (o2++(eQ (6:Int) (⟨ub,ux⟩:LocT).inS (⟨ub,ux⟩:LocT).x)).length h1) (ae 0 V ?_)
   exact hD _ _ ⟨o2++(eQ (6:Int) (⟨ub,ux⟩:LocT).inS (⟨ub,ux⟩:LocT).x),hS,h1,l0,_,(g1),(HS.sub jb (a01 _ _)),ik,f_,(by unfold bV;(repeat' split)<;>first|rfl|omega|simp_all[eQ])⟩
  exact hD _ _ ⟨o2,T,a_,an,_,fR,a7,N,f_,(by unfold bV;(repeat' split)<;>first|rfl|omega|simp_all[eQ])⟩
 skip;rintro pV pB ⟨o3,aa,ag,aw,kk,ci,b2,U,g8,h3⟩;refine au _ g8 (fun _=>?_);clear g8;replace hT:=hT.mono ci;replace A:=A.mono ci;have n3:o3.length<=2:=by rw[h3,a02];exact a1q n2 lenB
 refine am 3 V (aU 1 107 109 [] [(109,((aD i.op).f==4))] (Hr_ 1 2 Hn_) b2 V V fun _=>ba (fun f H'=> ∃(o4:List InsT) (oc:Int) (vb:Bool) (vx:Int),∃aq,∃(av:Nat),∃a4 F',kk.le F'/\Hb H F' H' [b9,cc,ch,b8,dd,(fP a9 [vb,vx]),(fP Z [i.op,oa,ob,oc,on]),a4] R/\OZ F' aq o4 av a4/\aA f [(2,(pT b1 0)),(5,(pT b7 0)),(6,(pT ax 0)),(9,(sL aq o4.length av)),(10,(pT Z 0))]/\(o4=o3++cV (aD i.op) i a.l)/\(oc=oC (aD i.op) i a.l)/\(in64 oc)/\(in64 vx)) (fun fi=>?_) ?_)
 ·refine zI 1 0 (fun k4=>?_) fun k4=>?_
  ·have p4:=hC X;obtain⟨n6,hr⟩:=Sv.view (SR.sv A b2);have l9:=LocT.fx (hr i.c.toNat);let hI:Value:=(aG [(.bool (a.l.getD i.c.toNat v_).inS),(a.l.getD i.c.toNat v_).x])
   refine sgr 2 110 115 [] [] (Hr_ 1 1 (Hr_ 3 0 (Ha_ (Sv.ix (j:=i.c) (SR.sv A b2)) (Hl_ 5 (qn 39 0 2 (LocT.vw (hr i.c.toNat)) V V V V) (Hr_ 6 5 Hn_))))) b2 V V fun oD pF e5=>ab (aS 1 0 116 116 [] [(116,hI)] (Hr_ 0 5 Hn_) e5 V V fun _=>zc (iK ex (a.l.getD i.c.toNat v_) (7) (HS.call e5) M M hT) ?_)
   rintro _ pG ⟨qf,o1,co,e6,rfl,rfl⟩;replace e6:=HS.back e5 V e6;replace hT:=hT.mono co;replace U:=U.mono co;refine sgo 2 2 118 118 [] [] (Hr_ 3 6 Hn_) e6 V V fun oE pH b4=>ae 2 V (aU 1 119 120 [] [(120,(.bool (a.l.getD i.c.toNat v_).inS))] (Hr_ 1 5 Hn_) b4 V V fun _=>zI 0 0 (fun k5=>?_) fun k5=>?_)
   ·have n7:=fH (to:=7) (b:=(a.l.getD i.c.toNat v_).inS) (x:=(a.l.getD i.c.toNat v_).x);refine ab (aS 2 0 121 122 [] [(121,(sL aa o3.length ag)),(122,hI)] (Hr_ 1 5 Hn_) b4 V V fun _=>zc (gT ex (7) (a.l.getD i.c.toNat v_) (HS.call b4) M M hT) ?_);rintro _ pI ⟨nx,oT,qg,p8,o5,g3,c9,rfl,hP,rfl⟩;replace c9:=HS.back b4 V c9;replace U:=U.mono g3;refine zao 7 U c9 (OS.sv hP c9 (i:=8) V) V V V M fun hV h5 l1 pJ il jq=>za (sL hV (o3++(eQ (7:Int) (a.l.getD i.c.toNat v_).inS (a.l.getD i.c.toNat v_).x)).length h5) (ae 0 V ?_)
    exact fi _ _ ⟨o3++(eQ (7:Int) (a.l.getD i.c.toNat v_).inS (a.l.getD i.c.toNat v_).x),eX (a.l.getD i.c.toNat v_).inS (a.l.getD i.c.toNat v_).x (7:Int),(a.l.getD i.c.toNat v_).inS,(a.l.getD i.c.toNat v_).x,hV,h5,l1,_,(fT (co) g3),(HS.sub jq (a01 _ _)),il,f_,(by unfold cV;(repeat' split)<;>first|rfl|omega|simp_all[eQ]),(by unfold oC;(repeat' split)<;>first|rfl|omega|simp_all),(gk M M),X⟩
   exact fi _ _ ⟨o3,eX (a.l.getD i.c.toNat v_).inS (a.l.getD i.c.toNat v_).x (7:Int),(a.l.getD i.c.toNat v_).inS,(a.l.getD i.c.toNat v_).x,aa,ag,aw,_,(co),b4,U,f_,(by unfold cV;(repeat' split)<;>first|rfl|omega|simp_all[eQ]),(by unfold oC;(repeat' split)<;>first|rfl|omega|simp_all),(gk M M),X⟩
  exact fi _ _ ⟨o3,0,false,0,aa,ag,aw,_,fR,b2,U,f_,(by unfold cV;(repeat' split)<;>first|rfl|omega|simp_all[eQ]),(by unfold oC;(repeat' split)<;>first|rfl|omega|simp_all),M,M⟩
 skip;rintro pW pE ⟨o4,oc,vb,vx,aq,av,a4,kl,g2,a2,b6,g9,h4,hc,rc,rvx⟩;refine au _ g9 (fun _=>?_);clear g9;have n4:o4.length<=3:=by rw[h4,a02];exact a1q n3 lenC
 refine am 4 V (aU 1 125 128 [] [(125,(i.op==38))] (Hr_ 1 0 Hn_) a2 V V fun _=>ba (fun f H'=> ∃(oo:Int),∃F',kl.le F'/\Hb H F' H' [b9,cc,ch,b8,dd,(fP a9 [vb,vx]),(fP Z [oo,oa,ob,oc,on]),a4] R/\aA f [(5,(pT b7 0)),(6,(pT ax 0)),(9,(sL aq o4.length av)),(10,(pT Z 0))]/\(oo=opV i)/\(in64 oo)) (fun fj=>?_) ?_)
 ·refine zI 0 1 (fun k6=>?_) fun k6=>?_
  ·refine sgr 0 129 129 [] [] (Hr_ 1 6 Hn_) a2 V V fun oF pL jw=>?_
   exact fj _ _ ⟨36,_,fR,jw,f_,(by unfold opV;(repeat' split)<;>first|rfl|omega),M⟩
  refine aU 1 130 143 [] [(130,((i.op==13)&&((decide (i.n<(-4194304)))||(decide ((4194304:Int)<=i.n)))))] (Hr_ 1 0 (bp 5 (fun _=>(ql 2 4 (h_ a2 V) V V)) (iu 9 (fun _ _=>(ql 2 4 (h_ a2 V) V V)) Hn_))) a2 V V fun _=>zI 0 0 (fun k7=>?_) fun k7=>?_
  ·refine sgr 0 144 144 [] [] (Hr_ 1 6 Hn_) a2 V V fun oG pM j1=>?_
   exact fj _ _ ⟨14,_,fR,j1,f_,(by unfold opV;(repeat' split)<;>first|rfl|omega),M⟩
  exact fj _ _ ⟨i.op,_,fR,a2,f_,(by unfold opV;(repeat' split)<;>first|rfl|omega),M⟩
 skip;rintro pX pK ⟨oo,o6,em,hk,he,ho,ro⟩;refine au _ he (fun _=>?_);clear he;replace b6:=b6.mono em;refine am 3 V (ab (aS 2 0 145 146 [] [(145,(sL aq o4.length av)),(146,(aG [oo,oa,ob,oc,on]))] (Hr_ 1 6 Hn_) hk V V fun _=>zlo ([(⟨oo,oa,ob,oc,on⟩:InsT)]:List InsT) hk V (RL.cs ⟨V,M,M,M,M,M⟩ RL.nl) V fun pP p5 p9 pN it hl=>zao 7 b6 hl (OS.sv it hl (i:=8) V) V V V M fun f3 f5 l2 pO hf b5=>za (sL f3 (o4++([(⟨oo,oa,ob,oc,on⟩:InsT)]:List InsT)).length f5) ?_));refine ae 3 V (aU 1 149 154 [] [(154,((aD i.op).wa&&tb))] (Hr_ 1 2 (bp 4 (fun _=>(ql 4 0 (HS.hc b5 (i:=3) V) V V)) Hn_)) b5 V V fun _=>zI 0 2 (fun h8=>?_) fun h8=>?_)
 ·refine ab (aS 4 0 155 158 [] [(155,(sL f3 (o4++([(⟨oo,oa,ob,oc,on⟩:InsT)]:List InsT)).length f5)),(158,(aG [(iI 37),(iI 5),(iI 0),(iI 0),tx]))] (Hr_ 2 3 Hn_) b5 V V fun _=>zlo ([(⟨37,5,0,0,tx⟩:InsT)]:List InsT) b5 V (RL.cs ⟨V,M,M,M,M,M⟩ RL.nl) V fun mI oP oW mm hJ f4=>zao 7 hf f4 (OS.sv hJ f4 (i:=9) V) V V V M fun ds f0 j2 mx hK hQ=>za (sL ds ((o4++([(⟨oo,oa,ob,oc,on⟩:InsT)]:List InsT))++([(⟨37,5,0,0,tx⟩:InsT)]:List InsT)).length f0) (ae 2 V ?_));refine wT 1 [] 4 4 [161] [(4,(sL ds ((o4++([(⟨oo,oa,ob,oc,on⟩:InsT)]:List InsT))++([(⟨37,5,0,0,tx⟩:InsT)]:List InsT)).length f0))] V fun _=>ak ⟨.inr V,_,V,ds,f0,(o4++([(⟨oo,oa,ob,oc,on⟩:InsT)]:List InsT))++([(⟨37,5,0,0,tx⟩:InsT)]:List InsT),j2,_,(fT (fT (fT (fT (fT (fT (fT (bt) ay) a1) ap) bl) ci) g2) em),(HS.only hQ (i:=7) V),V,hK,(by rw[roth_eq hm];first|exact oth1 h2 h3 h4 ho ha hb hc hn (fun h=>ht (.inr h)) X|exact oth0 h2 h3 h4 ho ha hb hc hn (fun h=>ht (.inr h)) X)⟩
 refine wT 1 [] 4 4 [161] [(4,(sL f3 (o4++([(⟨oo,oa,ob,oc,on⟩:InsT)]:List InsT)).length f5))] V fun _=>ak ⟨.inr V,_,V,f3,f5,o4++([(⟨oo,oa,ob,oc,on⟩:InsT)]:List InsT),l2,_,(fT (fT (fT (fT (fT (fT (fT (bt) ay) a1) ap) bl) ci) g2) em),(HS.only b5 (i:=7) V),V,hf,(by rw[roth_eq hm];first|exact oth1 h2 h3 h4 ho ha hb hc hn (fun h=>ht (.inr h)) X|exact oth0 h2 h3 h4 ho ha hb hc hn (fun h=>ht (.inr h)) X)⟩
theorem rexpand_c{ap a1}(iv:VInT){an ay ag ax}(a:AllT)(hs:Hb H F H [] R)(e2:in64 iv.i.op)(e3:in64 iv.i.a)(e4:in64 iv.i.b)(e5:in64 iv.i.c)(e6:in64 iv.i.n)(E:Sr F ap iv.args a1)(aq:Sr F ag a.l ax)(av:Sr F an a.p ay)(f4:in64 a.k)(hT:TB 37 tabC F)(hh:iv.args.length<=1048576):kKt ex 40 [(aG [iv.i.op,iv.i.a,iv.i.b,iv.i.c,iv.i.n,(sL ap iv.args.length a1)]),(aG [(sL ag a.l.length ax),(sL an a.p.length ay),a.k])] H fun v H'=> ∃ar,∃(kr:Nat) (r:List InsT),∃p F',F.le F'/\Hb H F' H' [p] R/\v=sL ar r.length kr/\OZ F' ar r kr p/\r=lY iv a.l:=by
 have hw:=sr_len (v:=iv);refine aB Tryz.func40 V V (am 1 V (ab (aT (aN hs V V) V V ?_)));rintro _ H2 _ ⟨b1,rfl,d2,_⟩;refine aT (aN d2 V V) V V ?_;rintro _ H4 _ ⟨b3,rfl,aa,_⟩;refine za N_ (ae 3 V (aU 1 7 11 [] [(11,(!(alV iv.i.op)))] (Hr_ 2 0 (Hc_ 3 (m1.nD ex iv.i.op H4) Hn_)) aa V V fun _=>zI 1 2 (fun c6=>?_) fun c6=>?_))
 ·refine wT 1 [] 4 4 [] [(4,N_)] V fun _=>ak ⟨.inr V,_,V,none,0,([]:List InsT),[],_,fR,(HS.cons (HS.forget aa)),V,(OS.nil:OS _ _ _ []),(exp_no (fun h=>by simp_all))⟩
 have al:=c6;let b4:Value:=(aG [iv.i.op,iv.i.a,iv.i.b,iv.i.c,iv.i.n,(sL ap iv.args.length a1)])
 refine aC V (cN 1 12 12 [] [(12,b4)] (Hr_ 0 0 Hn_) aa V V fun _=>aQ (W:=[]) (aP V V V) V V V (ma.kf ex iv (HS.call aa.log0) M M M M M E hT M) (kb V) ?_);rintro _ H9 ⟨g3,g6,r9,F9,U,Z,rfl,c7,rfl⟩;refine⟨Wr.did Z.log,fun et c5=>?_⟩;replace Z:=HS.back aa.log0 V Z;replace Z:=HS.lg Z aa c5;generalize ({H9 with log:=et}:Heap)=g2 at Z⊢;replace hT:=hT.mono U;replace E:=E.mono U;have bt:=HS.snoc Z;refine zad 2 (OS.nil:OS F9 N_ ([]:List Int) []) bt (SR.sv c7 bt) V V V M (kb V) fun dl em ez fd a_ aw=>?_
 have a_:OS F9 (sL dl (aE iv).length em) (aE iv) ez:=a_;refine bj (v:=b4) (id:= .l b1) (gw (i:=0) V V V (HS.hc aw.log0 (i:=0) V) V V V) V V (gf V) (⟨.inr a0g,.inr a0g,q_⟩) (aQ (W:=[]) (aP V V V) V V V (ma.iF ex iv (HS.call aw.log0) M M M M M E hT) (kb V) ?_);rintro _ dk ⟨f1,f5,g9,g7,f7,N,T,rfl,b7,rfl⟩;refine⟨Wr.did T.log,fun c9 b6=>?_⟩;replace T:=HS.back aw.log0 V T;replace T:=HS.lg T aw b6;generalize ({dk with log:=c9}:Heap)=fi at T⊢;replace hT:=hT.mono N;replace aq:=(aq.mono U).mono N;replace av:=(av.mono U).mono N;replace E:=E.mono N;replace a_:=a_.mono N;refine zad 2 a_ T (OS.sv b7 T (i:=3) V) V V V M (kb V) fun cc ch g8 a7 a2 A=>fa (sL cc ((aE iv)++(ah iv)).length ch) V V V (aW 3 V (wT 2 [] 1 0 [6] [(6,(iI 0))] V fun _=>aj (fun(mm:Nat) f H'=> ∃(k:Nat),H'=a7/\aA f [(2,(pT b1 0)),(3,(pT b3 0)),(5,(sL cc ((aE iv)++(ah iv)).length ch)),(6,(k:Int))]/\mm=(aE iv++ah iv).length-k/\(k<=(aE iv++ah iv).length)/\(∀j,j<k->0<=(aE iv++ah iv).getD j 0/\(aE iv++ah iv).getD j 0<(a.l.length:Int))) _ ⟨0,V,f_,V,M,(fun j hj=>absurd hj (a0D _))⟩ ?_))
 rintro f6 g4 a7 ⟨k,rfl,bl,rfl,h1,h2⟩ c8;refine au _ bl (fun _=>?_);clear bl;have hv:(aE iv++ah iv).length<=1048580:=by rw[a02];omega
 refine am 2 V (wT 1 [] 18 21 [] [(21,(decide ((k:Int)<(((aE iv)++(ah iv)).length:Int))))] V fun _=>zd 4 6 (fun ds=>?_) fun ds=>?_)
 ·obtain⟨f3,a5⟩:=Sv.view (OS.sv a2 A (i:=2) V);have g5:=fI (a5 k);refine wrDp 1 24 38 [] [(38,((decide ((((aE iv)++(ah iv)).getD k 0)<0))||(decide ((a.l.length:Int)<=(((aE iv)++(ah iv)).getD k 0)))))] (Ha_ (Sv.ix (j:=(k:Int)) (OS.sv a2 A (i:=2) V)) (Hl_ 3 (ql 3 0 (hc0 (vI (a5 k))) V V) (Ha_ (fun(g1:(decide ((((aE iv)++(ah iv)).getD k 0)<0))=false)=>(Sv.ix (j:=(k:Int)) (OS.sv a2 A (i:=2) V) (by(try simp only[BS]at g1);(first|(dsimp only;omega)|omega)) (by(try simp only[BS]at g1);(first|(dsimp only;omega)|omega)))) (bp 9 (fun g1=>(ql 3 0 (hc0 (vI (a5 k) (by(try simp only[BS]at g1);(first|(dsimp only;omega)|omega)))) V V)) (bp 11 (fun _=>(ql 29 0 (hc0 (i_ A V)) V V)) Hn_))))) V V V fun _=>zI 1 2 (fun dt=>?_) fun dt=>?_
  ·refine wT 1 [] 4 4 [] [(4,N_)] V fun _=>ak ⟨.inr V,_,V,none,0,([]:List InsT),[],_,(fT (U) N),(HS.cons (HS.forget A)),V,(OS.nil:OS _ _ _ []),(exp_no (fun h=>rng_no V (k:=k) M M h.2))⟩
  refine wU 1 [] 22 23 [6] [(6,(iI ((k:Int)+1)))] (vi (n:=(k:Int)+1)) V fun _=>?_
  refine c8 _ _ _ ?_ ⟨k+1,V,f_,V,M,(fun j hj=>by(rcases a0k j k with h|h;exact h2 j h;rw[show j=k by omega];omega))⟩;omega
 have a0:rngV iv a.l.length:=rng_all V M h2;have rf:=rng_of al a0;refine aU 1 39 42 [] [(42,(iv.i.op==6))] (Hr_ 2 0 Hn_) A V V fun _=>zI 1 2 (fun bb=>?_) fun bb=>?_
 ·have h6:=bb;refine ab (aS 2 0 43 44 [] [(43,b4),(44,(aG [(sL ag a.l.length ax),(sL an a.p.length ay),a.k]))] (Hr_ 0 0 (Hr_ 1 1 Hn_)) A V V fun _=>zc (rcall_c ex iv a (HS.call A) M M M M M E aq av M hT X (rf.a (.inr (.inr (.inl h6)))) (rf.g h6)) ?_);rintro _ go ⟨a8,bz,ha,e0,f8,ci,a3,rfl,b8,rfl⟩;replace a3:=HS.back A V a3;refine za (sL a8 (jX a.l iv.args iv.args.length++[(⟨6,(iv.args.length:Int),0,0,iv.i.n⟩:InsT)]++savV (atV a.l iv.i.a).inS (atV a.l iv.i.a).x).length bz) (ae 1 V (ak ⟨.inr V,_,V,a8,bz,jX a.l iv.args iv.args.length++[(⟨6,(iv.args.length:Int),0,0,iv.i.n⟩:InsT)]++savV (atV a.l iv.i.a).inS (atV a.l iv.i.a).x,e0,_,(fT (fT (U) N) ci),(HS.only a3 (i:=4) V),V,b8,(exp_6 al a0 h6)⟩))
 have h6:=bb;refine ab (aS 3 0 46 48 [] [(47,(aG [iv.i.op,iv.i.a,iv.i.b,iv.i.c,iv.i.n])),(48,(aG [(sL ag a.l.length ax),(sL an a.p.length ay),a.k]))] (Hr_ 1 0 (Hr_ 2 1 Hn_)) A V V fun _=>zc (roth_c ex iv.i a (HS.call A) M M M M M aq av M hT (fun h=>rf.a (rng_va h)) (fun h=>rf.b (by rw[←vrb];exact h)) (fun h=>rf.c ((vf4 al).1 h))) ?_);rintro _ gt ⟨a9,b2,hb,e1,f9,co,a4,rfl,b9,rfl⟩;replace a4:=HS.back A V a4;refine za (sL a9 (if iv.i.op=10 then movV iv.i a.l else jf (aD iv.i.op) iv.i a.l).length b2) (ae 1 V (ak ⟨.inr V,_,V,a9,b2,if iv.i.op=10 then movV iv.i a.l else jf (aD iv.i.op) iv.i a.l,e1,_,(fT (fT (U) N) co),(HS.only a4 (i:=4) V),V,b9,(exp_o al a0 h6)⟩))
end xa
open xa
namespace ej
structure JmpT where
 at_:Int
 to:Int
 deriving Inhabited
instance :Rp JmpT where
 sz:=2
 rep F cs x:=cs=[iI x.at_,iI x.to]/\in64 x.at_/\in64 x.to
 len:=by rintro F cs x ⟨rfl,_⟩;rfl
 one:=by rintro F cs x ⟨rfl,_⟩;rfl
 mono:=by intro F F' cs x _ h;exact h
theorem JmpT.vw{F}{get:Nat->Option AObj}{v:Value}{cf:Nat->List Value}{j:Nat}{l:List JmpT}(h:VW F get v l cf j)(N:j<l.length:=by first|(dsimp only;omega)|omega):HC get (sB v) (sO v+j *Rp.sz JmpT) [iI (l.getD j default).at_,iI (l.getD j default).to]:=by obtain⟨⟨E,_⟩,A⟩:=h.1 default N;rw[show cf j=_ from E]at A;exact A
theorem JmpT.fx{F}{get:Nat->Option AObj}{v:Value}{cf:Nat->List Value}{j:Nat}{l:List JmpT}(h:VW F get v l cf j):in64 (l.getD j default).at_/\in64 (l.getD j default).to:=by
 rcases a0k j l.length with hj|hj
 ·obtain⟨⟨E,h0,A⟩,_⟩:=h.1 default hj;exact⟨h0,A⟩
 rw[bZ hj];exact⟨by decide,by decide⟩
structure BinT where
 wd:(List U32)
 en:(List Int)
 pr:(List Int)
 sl:(List Int)
 al:(List Int)
 deriving Inhabited
instance :Rp BinT where
 sz:=5
 rep F cs x:= ∃a0 k0 a1 k1 a2 k2 a3 k3 a4 k4,cs=[sL a0 x.wd.length k0,sL a1 x.en.length k1,sL a2 x.pr.length k2,sL a3 x.sl.length k3,sL a4 x.al.length k4]/\SR F (sL a0 x.wd.length k0) x.wd/\SR F (sL a1 x.en.length k1) x.en/\SR F (sL a2 x.pr.length k2) x.pr/\SR F (sL a3 x.sl.length k3) x.sl/\SR F (sL a4 x.al.length k4) x.al
 len:=by rintro F cs x ⟨a0,k0,a1,k1,a2,k2,a3,k3,a4,k4,rfl,_⟩;rfl
 one:=by rintro F cs x ⟨a0,k0,a1,k1,a2,k2,a3,k3,a4,k4,rfl,_⟩;rfl
 mono:=by rintro F F' cs x hF ⟨a0,k0,a1,k1,a2,k2,a3,k3,a4,k4,rfl,h0,h1,h2,h3,h4⟩;exact⟨a0,k0,a1,k1,a2,k2,a3,k3,a4,k4,V,h0.mono hF,h1.mono hF,h2.mono hF,h3.mono hF,h4.mono hF⟩
end ej
open ej
namespace ea
open Go.R m1 m2 m3 m4 m5 m6 ma ml mb mc md mf mg mh mi mj na nb nc ni nv xa ej
instance :RpI InsT:=⟨fun _ _ _ _ h=>h⟩
instance :RpI JmpT:=⟨fun _ _ _ _ h=>h⟩
structure EmS where
 l:List InsT
 pl:List Int
 sz:Int
 js:List JmpT
 deriving Inhabited
def wdI(i:InsT):Int:=(aI i.op).w
def put1(s:EmS)(i:InsT):EmS:=⟨s.l++[i],s.pl++[s.sz],s.sz+wdI i,s.js⟩
def eW(s:EmS)(l:List InsT):EmS:=l.foldl put1 s
def mF(s:EmS)(i:InsT)(b:Int):EmS:=eW ⟨s.l,s.pl,s.sz,s.js++[⟨(s.l.length:Int),b⟩]⟩ [i]
def lZ(s:EmS)(r:Int)(b:BlkT)(A:Int):EmS:=
 if b.e=A then mF s ⟨8,r,0,0,0⟩ b.t else if b.t=A then mF s ⟨7,r,0,0,0⟩ b.e else mF (mF s ⟨8,r,0,0,0⟩ b.t) ⟨5,0,0,0,0⟩ b.e
def fetS(x:LocT):List InsT:=if x.inS=true then [⟨36,5,0,0,x.x⟩] else []
def fu(s:EmS)(b:BlkT)(A:List LocT)(E:Int):EmS:=
 if b.f=1 then(if b.t=E then s else mF s ⟨5,0,0,0,0⟩ b.t)
 else if b.f=2 then lZ (eW s (fetS (atV A b.r))) (eX (atV A b.r).inS (atV A b.r).x 5) b E
 else if b.f=3 then eW (eW s (eQ 0 (atV A b.r).inS (atV A b.r).x)) [⟨2,0,0,0,0⟩]
 else eW s [⟨4,0,0,0,b.t⟩]
def lD(A:List LocT)(s:EmS)(l:List VInT):EmS:=l.foldl (fun s v=>eW s (lY v A)) s
def parE(s:EmS):Nat->EmS
 |0=>s
 |k+1=>eW (parE s k) [⟨37,(k:Int),0,0,(k:Int)⟩]
def j3(A:List LocT):List BlkT->Int->EmS×List Int->EmS×List Int
 | [],_,x=>x
 |b::r,k,x=>j3 A r (k+1) (fu (lD A x.1 b.v) b A (k+1),x.2++[x.1.sz])
def eZ(c:VFnT)(A:List LocT)(s:EmS):EmS×List Int:=j3 A c.u 0 (parE ⟨s.l,s.pl,s.sz,[]⟩ c.m.toNat,[])
def fixJ(st pl:List Int)(l:List InsT)(j:JmpT):List InsT:=l.set j.at_.toNat ⟨(l.getD j.at_.toNat v_).op,(l.getD j.at_.toNat v_).a,(l.getD j.at_.toNat v_).b,(l.getD j.at_.toNat v_).c,IntKind.i64.wrap (st.getD j.to.toNat 0-pl.getD j.at_.toNat 0)⟩
def fixE(st pl:List Int)(l:List InsT)(A:List JmpT):List InsT:=A.foldl (fixJ st pl) l
theorem jA(i:InsT):0<=wdI i/\wdI i<=3:=by
 unfold wdI;by_cases h:1<=i.op/\i.op<=37
 ·have A: ∀k:Fin 37,0<=(aI ((k.val:Int)+1)).w/\(aI ((k.val:Int)+1)).w<=3:=by decide
  obtain⟨k,E⟩:=ex37 h;rw[E];exact A k
 unfold aI;rw[if_neg h];exact⟨a1G _,by decide⟩
theorem gC(s:EmS)(i:InsT)(l:List InsT):eW s (i::l)=eW (put1 s i) l:=rfl
theorem put_app(s:EmS)(l m:List InsT):eW s (l++m)=eW (eW s l) m:=List.foldl_append
theorem put_l: ∀(l:List InsT) (s:EmS),(eW s l).l=s.l++l
 | [],s=>(a0p _).symm
 |i::l,s=>by rw[gC,put_l l];simp[put1]
theorem put_js: ∀(l:List InsT) (s:EmS),(eW s l).js=s.js
 | [],_=>rfl
 |i::l,s=>by rw[gC,put_js l];rfl
theorem put_step{s w:EmS}{l:List InsT}{k:Nat}(h:w=eW s (l.take k))(A:k<l.length):put1 w (l.getD k v_)=eW s (l.take (k+1)):=by rw[h,bx A (d:=v_),put_app];rfl
structure EmO(s:EmS):Prop where
 pl:s.pl.length=s.l.length
 js:s.js.length<=s.l.length
 sz0:0<=s.sz
 sz1:s.sz<=1000000+3 *(s.l.length:Int)
theorem EmO.p1{s}(h:EmO s)(i:InsT):EmO (put1 s i):=by have A:=h.pl;have E:=h.js;have N:=h.sz0;have T:=h.sz1;have U:=jA i;refine⟨?_,?_,?_,?_⟩<;>simp only[put1,a02,a0j]<;>omega
theorem EmO.pt: ∀(l:List InsT) {s:EmS},EmO s->EmO (eW s l)
 | [],_,h=>h
 |i::l,_,h=>EmO.pt l (h.p1 i)
theorem EmO.j0{s}(h:EmO s):EmO ⟨s.l,s.pl,s.sz,[]⟩:=⟨h.pl,a0r _,h.sz0,h.sz1⟩
theorem put_j0: ∀(l:List InsT) (s:EmS),eW ⟨s.l,s.pl,s.sz,[]⟩ l=⟨(eW s l).l,(eW s l).pl,(eW s l).sz,[]⟩
 | [],_=>rfl
 |i::l,s=>by rw[gC,gC,←put_j0 l];rfl
theorem EmO.jm{s}(h:EmO s)(i:InsT)(b:Int):EmO (mF s i b):=by have A:=h.pl;have E:=h.js;have N:=h.sz0;have T:=h.sz1;have U:=jA i;unfold mF;refine⟨?_,?_,?_,?_⟩<;>simp only[eW,a2m,List.foldl_nil,put1,a02,a0j]<;>omega
theorem df(s:EmS)(i:InsT)(b:Int):(mF s i b).l.length=s.l.length+1:=by unfold mF;rw[put_l];simp
theorem bT(s:EmS)(l:List InsT):(eW s l).l.length=s.l.length+l.length:=by rw[put_l,a02]
theorem kv{x}:(fetS x).length<=1:=by unfold fetS;split<;>simp
theorem EmO.tr{s}(h:EmO s)(b:BlkT)(A:List LocT)(E:Int):EmO (fu s b A E):=by
 unfold fu;split
 ·split
  ·exact h
  exact h.jm _ _
 split
 ·unfold lZ;split
  ·exact(h.pt _).jm _ _
  split
  ·exact(h.pt _).jm _ _
  exact((h.pt _).jm _ _).jm _ _
 split
 ·exact(h.pt _).pt _
 exact h.pt _
theorem trm_len(s:EmS)(b:BlkT)(N:List LocT)(T:Int):(fu s b N T).l.length<=s.l.length+3:=by
 unfold fu;have A:=kv (x:=atV N b.r);have E:=fH (to:=0) (b:=(atV N b.r).inS) (x:=(atV N b.r).x);split
 ·split
  ·omega
  rw[df];omega
 split
 ·unfold lZ;split
  ·rw[df,bT];omega
  split
  ·rw[df,bT];omega
  rw[df,df,bT];omega
 split
 ·rw[bT,bT];simp only[a0j];omega
 rw[bT];simp only[a0j];omega
theorem drp{α:Type}{l:List α}{i:Nat}{d:α}(h:i<l.length):l.drop i=l.getD i d::l.drop (i+1):=by rw[a1d h,a03,a06 h];rfl
theorem dre{α:Type}{l:List α}{i:Nat}(h:l.length<=i):l.drop i=[]:=a1O h
theorem oth_len{f i l}:(jf f i l).length<=5:=by have A:=lenA (f:=f) (i:=i) (l:=l);have E:=lenB (f:=f) (i:=i) (l:=l);have N:=lenC (f:=f) (i:=i) (l:=l);have T:(wV f i l).length<=1:=len1;unfold jf;simp only[a02,a04,a07];omega
theorem exp_len{v l}:(lY v l).length<=v.args.length+5:=by
 unfold lY;split
 ·split
  ·have A:=kB (l:=l) (a:=v.args) v.args.length;have E:(savV (atV l v.i.a).inS (atV l v.i.a).x).length<=1:=by unfold savV;split<;>(try split)<;>simp
   simp only[a02,a04,a07];omega
  split
  ·unfold movV;split
   ·simp
   split
   ·simp
   split
   ·simp
   exact a0e oth_len M
  exact a0e oth_len M
 simp
theorem ins_go{A:List LocT}{s E c_:EmS}{l:List VInT}{i:Nat}(h:lD A s (l.drop i)=c_)(hi:i<l.length)(e:E=eW s (lY (l.getD i v_) A)):lD A E (l.drop (i+1))=c_:=by rw[drp (d:=v_) hi]at h;rw[e];exact h
theorem ins_end{A:List LocT}{s c_:EmS}{l:List VInT}{i:Nat}(h:lD A s (l.drop i)=c_)(hi:l.length<=i):s=c_:=by rw[dre hi]at h;exact h
theorem blk_go{A:List LocT}{bs:List BlkT}{k:Nat}{s E:EmS}{st:List Int}{c_:EmS×List Int}(h:j3 A (bs.drop k) (k:Int) (s,st)=c_)(N:k<bs.length)(e:E=fu (lD A s (bs.getD k v_).v) (bs.getD k v_) A ((k:Int)+1)):j3 A (bs.drop (k+1)) ((k+1:Nat):Int) (E,st++[s.sz])=c_:=by rw[drp (d:=v_) N]at h;rw[e];exact h
theorem blk_go2{E:List LocT}{bs:List BlkT}{k:Nat}{s T:EmS}{st N:List Int}{c_:EmS×List Int}(h:j3 E (bs.drop k) (k:Int) (s,st)=c_)(U:k<bs.length)(e:T=fu (lD E s (bs.getD k v_).v) (bs.getD k v_) E ((k:Int)+1))(A:N=st++[s.sz]):j3 E (bs.drop (k+1)) ((k+1:Nat):Int) (T,N)=c_:=by rw[A];exact blk_go h U e
theorem fM{E:List LocT}{bs:List BlkT}{k:Nat}{s:EmS}{st:List Int}{c_:EmS×List Int}(h:j3 E (bs.drop k) (k:Int) (s,st)=c_)(A:bs.length<=k):(s,st)=c_:=by rw[dre A]at h;exact h
theorem fix_go{st pl:List Int}{l l' c_:List InsT}{A:List JmpT}{j:Nat}(h:fixE st pl l (A.drop j)=c_)(E:j<A.length)(e:l'=fixJ st pl l (A.getD j v_)):fixE st pl l' (A.drop (j+1))=c_:=by rw[drp (d:=v_) E]at h;rw[e];exact h
theorem fix_end{st pl:List Int}{l c_:List InsT}{A:List JmpT}{j:Nat}(h:fixE st pl l (A.drop j)=c_)(E:A.length<=j):l=c_:=by rw[dre E]at h;exact h
def JsO(s:EmS)(nb:Int):Prop:= ∀j∈s.js,(0<=j.at_/\j.at_<(s.l.length:Int))/\0<=j.to/\j.to<nb
theorem JsO.pt{s}{nb:Int}(h:JsO s nb)(l:List InsT):JsO (eW s l) nb:=fun j A=>by rw[put_js]at A;have:=h j A;rw[bT];omega
theorem JsO.jm{s}{nb b:Int}(h:JsO s nb)(i:InsT)(E:0<=b/\b<nb):JsO (mF s i b) nb:=fun j A=>by
 rw[df];unfold mF at A;rw[put_js,a09,a0b]at A;rcases A with A|rfl
 ·have:=h j A;omega
 exact⟨⟨by dsimp only;omega,by dsimp only;omega⟩,E⟩
def TgO(b:BlkT)(nb:Int):Prop:=(b.f=1->0<=b.t/\b.t<nb)/\(b.f=2->(0<=b.t/\b.t<nb)/\0<=b.e/\b.e<nb)
theorem tg_of{c}(v:VF c){k}(A:k<c.u.length):TgO (c.u.getD k v_) (c.u.length:Int):=by
 have h:=v.succ k A;refine⟨fun e=>h _ ?_,fun e=>⟨h _ ?_,h _ ?_⟩⟩
 ·unfold bu;rw[if_pos (show(bH c k).f=1 from e)];exact a0b.2 V
 ·unfold bu;rw[if_neg (show ¬(bH c k).f=1 by have e:(bH c k).f=2:=e;omega),if_pos (show(bH c k).f=2 from e),ic];exact .inr (a0b.2 V)
 unfold bu;rw[if_neg (show ¬(bH c k).f=1 by have e:(bH c k).f=2:=e;omega),if_pos (show(bH c k).f=2 from e),ic];exact .inl V
theorem JsO.tr{s}{nb:Int}(h:JsO s nb){b}(E:TgO b nb)(N:List LocT)(T:Int):JsO (fu s b N T) nb:=by
 unfold fu;split
 ·split
  ·exact h
  exact h.jm _ (E.1 X)
 split
 ·have A:=E.2 X;unfold lZ;split
  ·exact(h.pt _).jm _ A.1
  split
  ·exact(h.pt _).jm _ A.2
  exact((h.pt _).jm _ A.1).jm _ A.2
 split
 ·exact(h.pt _).pt _
 exact h.pt _
theorem js_at{s}{nb:Int}(h:JsO s nb){k}(A:k<s.js.length):(0<=(s.js.getD k v_).at_/\(s.js.getD k v_).at_<(s.l.length:Int))/\0<=(s.js.getD k v_).to/\(s.js.getD k v_).to<nb:=by rw[a03,a06 A];exact h _ (a0T A)
def gg(c:VFnT)(A:List LocT)(s:EmS):EmS×List Int:=(⟨fixE (eZ c A s).2 (eZ c A s).1.pl (eZ c A s).1.l (eZ c A s).1.js,(eZ c A s).1.pl,(eZ c A s).1.sz,(eZ c A s).1.js⟩,(eZ c A s).2)
end ea
open ea
namespace eb
open Go.R m1 m2 m3 m4 m5 m6 ma ml
def loN(op:Int):Int:=if op=4 then 1 else if op=5 then-33554432 else if op=14 then-9223372036854775808 else if op=7\/op=8\/op=13\/op=33 then-4194304 else 0
def hiN(op:Int):Int:=if op=4\/op=5 then 33554431 else if op=6 then 7 else if op=34\/op=35 then 3 else if op=36\/op=37 then 2999 else if op=14 then 9223372036854775807 else if op=7\/op=8\/op=13\/op=33 then 4194303 else 0
def loP(op:Int):Int:=if op=14 then-9223372036854775808 else if op=4 then 1 else if op=5 then-33554432 else if op=6\/op=34\/op=35\/op=36\/op=37 then 0 else-4194304
def hiP(op:Int):Int:=if op=14 then 9223372036854775807 else if op=4\/op=5 then 33554431 else if op=6 then 7 else if op=34\/op=35 then 3 else if op=36\/op=37 then 2999 else 4194303
abbrev fA(f:Int):Prop:=2<=f/\f<=7
abbrev fB(f:Int):Prop:=f=3\/f=4\/f=7
abbrev fN(f:Int):Prop:=5<=f/\f<=8
structure VldI(i:InsT):Prop where
 o:1<=i.op/\i.op<=37
 a:0<=i.a/\i.a<=7
 a6:i.op=6->i.a<=6
 b:0<=i.b/\i.b<8
 c:0<=i.c/\i.c<8
 a0: ¬fA (aI i.op).f->i.a=0
 b0: ¬fB (aI i.op).f->i.b=0
 c0: ¬(aI i.op).f=4->i.c=0
 n:i.op≠14->loN i.op<=i.n/\i.n<=hiN i.op
theorem nb_at: ∀k:Fin 37,(¬fN (aI ((k.val:Int)+1)).f->loN ((k.val:Int)+1)=0/\hiN ((k.val:Int)+1)=0)/\(fN (aI ((k.val:Int)+1)).f->loP ((k.val:Int)+1)=loN ((k.val:Int)+1)/\hiP ((k.val:Int)+1)=hiN ((k.val:Int)+1)):=by decide
theorem n14:fN (aI 14).f:=by decide
theorem VldI.nr{i}(v:VldI i)(h:in64 i.n):loN i.op<=i.n/\i.n<=hiN i.op:=by
 by_cases e:i.op=14
 ·rw[e];have h:=h;exact⟨h.1,by have:=h.2;show i.n<=9223372036854775807;omega⟩
 exact v.n e
theorem VldI.n0{i}(v:VldI i): ¬fN (aI i.op).f->i.n=0:=fun T=>by
 have A:i.op≠14:=fun e=>T (by rw[e];exact n14)
 have E:=v.n A;obtain⟨k,U⟩:=ex37 v.o;have N:=(nb_at k).1;rw[U]at E T;have:=N T;omega
theorem VldI.nn{i}(v:VldI i)(h:in64 i.n):fN (aI i.op).f->loP i.op<=i.n/\i.n<=hiP i.op:=fun N=>by have A:=v.nr h;obtain⟨k,T⟩:=ex37 v.o;have E:=(nb_at k).2;rw[T]at A N⊢;have:=E N;omega
theorem vz{p} [Decidable p]{x:Int}(h: ¬p->x=0):(!(decide p)&&(x !=0))=false:=by
 by_cases A:p
 ·simp[A]
 simp[A,h A]
theorem VldI.c1{i}(v:VldI i):((((!(decide (fA (aI i.op).f))&&(i.a !=0))||(!(decide (fB (aI i.op).f))&&(i.b !=0)))||(!(decide ((aI i.op).f=4))&&(i.c !=0)))||(!(decide (fN (aI i.op).f))&&(i.n !=0)))=false:=by rw[vz v.a0,vz v.b0,vz v.c0,vz v.n0];rfl
theorem VldI.c2{i}(v:VldI i)(A:in64 i.n):(!(decide (fN (aI i.op).f))||(decide (loP i.op<=i.n)&&decide (i.n<=hiP i.op)))=true:=by
 by_cases h:fN (aI i.op).f
 ·have:=v.nn A h;rw[decide_eq_true this.1,decide_eq_true this.2];simp
 rw[decide_eq_false h];rfl
theorem VldI.c3{i}(v:VldI i)(N:in64 i.n):(((aZ i.op==0)||decide (i.n<loN i.op))||decide (hiN i.op<i.n))=false:=by have h:=kt i.op;have A:=v.o;have E:=v.nr N;rw[decide_eq_false M,decide_eq_false M,a1M,a1M];exact beq_eq_false_iff_ne.2 M
theorem inf_form: ∀k:Fin 37,(aI ((k.val:Int)+1)).f=aZ ((k.val:Int)+1):=by decide
theorem VldI.ff{i}(v:VldI i):aZ i.op=(aI i.op).f:=by obtain⟨k,A⟩:=ex37 v.o;rw[A];exact(inf_form k).symm
theorem f_rng: ∀k:Fin 37,1<=(aI ((k.val:Int)+1)).f/\(aI ((k.val:Int)+1)).f<=8:=by decide
theorem VldI.c4{i}(v:VldI i):(((!((aZ i.op !=1)&&(aZ i.op !=8))&&(i.a !=0))||(!(((aZ i.op==3)||(aZ i.op==4))||(aZ i.op==7))&&(i.b !=0)))||((aZ i.op !=4)&&(i.c !=0)))=false:=by
 have hf:=v.ff;have hr:1<=aZ i.op/\aZ i.op<=8:=by obtain⟨k,hk⟩:=ex37 v.o;rw[hk,←inf_form k];exact f_rng k
 have Z:=v.a0;have hb:=v.b0;have hc:=v.c0;rw[←hf]at Z hb hc;have A:(!((aZ i.op !=1)&&(aZ i.op !=8))&&(i.a !=0))=false:=by
  by_cases h:aZ i.op=1\/aZ i.op=8
  ·rw[Z (by unfold fA;omega)];simp
  have T:aZ i.op≠1:=fun e=>h (.inl e)
  have U:aZ i.op≠8:=fun e=>h (.inr e)
  simp[T,U]
 have E:(!(((aZ i.op==3)||(aZ i.op==4))||(aZ i.op==7))&&(i.b !=0))=false:=by
  by_cases h:aZ i.op=3\/aZ i.op=4\/aZ i.op=7
  ·rcases h with h|h|h<;>rw[h]<;>rfl
  rw[hb h];simp
 have N:((aZ i.op !=4)&&(i.c !=0))=false:=by
  by_cases h:aZ i.op=4
  ·rw[h];rfl
  rw[hc h];simp
 rw[A,E,N];rfl
abbrev u3(n:Int):Int:=IntKind.u32.wrap n
abbrev u6(n:Int):Int:=IntKind.u64.wrap n
abbrev or3(a b:Int):Int:=aJ .or .u32 a b
abbrev sh3(a:Int)(k:Nat):Int:=IntKind.u32.wrap (a *2^(Nat.min k 32))
def hdW(i:InsT):Int:=or3 (or3 (or3 (u3 i.op) (sh3 (u3 i.a) 6)) (sh3 (u3 i.b) 9)) (sh3 (u3 i.c) 12)
def shN(f:Int):Nat:=if f=8 then 6 else if f=5 then 9 else if f=7 then 12 else 32
def enW(i:InsT):List U32:=if(aI i.op).f=6 then [⟨hdW i⟩,⟨u3 i.n⟩,⟨u3 (Int.fdiv (u6 i.n) (2^(Nat.min 32 64)))⟩] else [⟨or3 (hdW i) (sh3 (u3 i.n) (shN (aI i.op).f))⟩]
def i0(l:List InsT):List U32:=l.flatMap enW
theorem w32(n:Int):IntKind.u32.wrap n=n%4294967296:=by unfold IntKind.wrap;simp[IntKind.bits,IntKind.signed]
theorem lO(op:BinOp)(a b:Int):0<=aJ op .u32 a b/\aJ op .u32 a b<4294967296:=by unfold aJ bits;cases op<;>first|exact fq _|(constructor<;>decide)
theorem og{a:Int}(h:iA a)(k:Nat)(Z:k<64):aJ .and .u64 a (((2^k-1:Nat)):Int)=a%((2^k:Nat):Int):=by
 have e:aJ .and .u64 a (((2^k-1:Nat)):Int)=IntKind.u64.wrap ((bv a&&&bv (((2^k-1:Nat)):Int)).toNat:Int):=rfl;have hp:(2^k:Nat)<2^64:=a2j M Z;have A:0<(2^k:Nat):=Nat.pow_pos M;have T:(2:Nat)^64=18446744073709551616:=by decide
 rw[T]at hp;have E:(bv (((2^k-1:Nat)):Int)).toNat=2^k-1:=by rw[lL (by constructor<;>omega)];omega
 have N:(bv a&&&bv (((2^k-1:Nat)):Int)).toNat=a.toNat%2^k:=by rw[BitVec.toNat_and,lL h,E,Nat.and_two_pow_sub_one_eq_mod]
 have a_:a.toNat%2^k<2^k:=Nat.mod_lt _ A;rw[e,N,iB];have U:((a.toNat%2^k:Nat):Int)=a%((2^k:Nat):Int):=by rw[Int.natCast_emod,a10 h.1]
 rw[←U];omega
def fatN(f:Int):Nat:=if f=8 then 6 else if f=5 then 9 else if f=7 then 12 else 0
def fnbN(f:Int):Nat:=if f=8 then 26 else if f=5 then 23 else if f=7 then 20 else 0
def rnW(i:InsT)(f:Int):Int:=sh3 (u3 (aJ .and .u64 (u6 i.n) (u6 (u6 (1 *2^(Nat.min (fnbN f) 64))-1)))) (fatN f)
theorem rn_eq{i}{f:Int}(hf:f=8\/f=5\/f=7):rnW i f=sh3 (u3 i.n) (shN f):=by
 have Z:iA (u6 i.n):=shl_rng _;have U: ∀k:Nat,k<64->1<=k->u6 (u6 (1 *2^(Nat.min k 64))-1)=(((2^k-1:Nat)):Int):=fun k hk T=>by
  show IntKind.u64.wrap (IntKind.u64.wrap (1 *2^(Nat.min k 64))-1)=_;rw[shl_one hk,iB];have hp:(2^k:Nat)<2^64:=a2j M hk;have E:0<(2^k:Nat):=Nat.pow_pos M;have N:(2:Nat)^64=18446744073709551616:=by decide
  rw[N]at hp;generalize (2^k:Nat)=q at hp E⊢;omega
 unfold rnW;have A:u6 i.n=i.n%18446744073709551616:=iB _;rcases hf with rfl|rfl|rfl
 ·rw[show fnbN 8=26 from V,U 26 M M,og Z 26 M,A];show IntKind.u32.wrap (IntKind.u32.wrap _ *2^(Nat.min 6 32))=IntKind.u32.wrap (IntKind.u32.wrap _ *2^(Nat.min 6 32));simp only[w32,show(2:Int)^(Nat.min 6 32)=64 from by decide,show((2^26:Nat):Int)=67108864 from by decide];omega
 ·rw[show fnbN 5=23 from V,U 23 M M,og Z 23 M,A];show IntKind.u32.wrap (IntKind.u32.wrap _ *2^(Nat.min 9 32))=IntKind.u32.wrap (IntKind.u32.wrap _ *2^(Nat.min 9 32));simp only[w32,show(2:Int)^(Nat.min 9 32)=512 from by decide,show((2^23:Nat):Int)=8388608 from by decide];omega
 rw[show fnbN 7=20 from V,U 20 M M,og Z 20 M,A];show IntKind.u32.wrap (IntKind.u32.wrap _ *2^(Nat.min 12 32))=IntKind.u32.wrap (IntKind.u32.wrap _ *2^(Nat.min 12 32));simp only[w32,show(2:Int)^(Nat.min 12 32)=4096 from by decide,show((2^20:Nat):Int)=1048576 from by decide];omega
theorem or_zero{a:Int}(h:0<=a/\a<4294967296):or3 a 0=a:=by
 have e:or3 a 0=IntKind.u32.wrap ((BitVec.ofInt 32 a|||BitVec.ofInt 32 0).toNat:Int):=rfl;have A:((BitVec.ofInt 32 a).toNat:Int)=a:=by
  rw[BitVec.toNat_ofInt];have:((2^32:Nat):Int)=4294967296:=by decide
  rw[this];omega
 rw[e,BitVec.toNat_or,show(BitVec.ofInt 32 0).toNat=0 from by decide,Nat.or_zero,A,w32];omega
theorem hd_rng(i:InsT):0<=hdW i/\hdW i<4294967296:=lO _ _ _
theorem sh_32(n:Int):sh3 (u3 n) 32=0:=by show IntKind.u32.wrap (IntKind.u32.wrap n *2^(Nat.min 32 32))=0;simp only[w32,show(2:Int)^(Nat.min 32 32)=4294967296 from by decide];omega
def xW(i:InsT):Int:=if(fnbN (aZ i.op):Int)>0 then or3 (hdW i) (rnW i (aZ i.op)) else hdW i
def reW(i:InsT):List U32:=if i.op=14 then [⟨xW i⟩,⟨u3 (u6 i.n)⟩,⟨u3 (Int.fdiv (u6 i.n) (2^(Nat.min 32 64)))⟩] else [⟨xW i⟩]
theorem f6_14: ∀k:Fin 37,aZ ((k.val:Int)+1)=6↔((k.val:Int)+1)=14:=by decide
theorem re_eq{i}(v:VldI i):reW i=enW i:=by
 have hf:=v.ff;have T:aZ i.op=6↔i.op=14:=by obtain⟨k,hk⟩:=ex37 v.o;rw[hk];exact f6_14 k
 unfold reW enW;rw[←hf];by_cases h:i.op=14
 ·rw[if_pos h,if_pos (T.2 h)];have E:xW i=hdW i:=by unfold xW;rw[T.2 h];rfl
  have N:u3 (u6 i.n)=u3 i.n:=by show IntKind.u32.wrap (IntKind.u64.wrap i.n)=IntKind.u32.wrap i.n;rw[w32,w32,iB];omega
  rw[E,N]
 rw[if_neg h,if_neg (fun e=>h (T.1 e))];unfold xW;by_cases A:aZ i.op=8\/aZ i.op=5\/aZ i.op=7
 ·rw[rn_eq A,if_pos (by rcases A with e|e|e<;>rw[e]<;>decide)]
 have U: ¬aZ i.op=8:=fun e=>A (.inl e)
 have a_: ¬aZ i.op=5:=fun e=>A (.inr (.inl e))
 have Z: ¬aZ i.op=7:=fun e=>A (.inr (.inr e))
 have E:fnbN (aZ i.op)=0:=by unfold fnbN;rw[if_neg U,if_neg a_,if_neg Z]
 have N:shN (aZ i.op)=32:=by unfold shN;rw[if_neg U,if_neg a_,if_neg Z]
 rw[E,N,sh_32,or_zero (hd_rng i)];rfl
theorem en_len{i}(v:VldI i):((enW i).length:Int)=(aI i.op).w:=by
 have: ∀k:Fin 37,(aI ((k.val:Int)+1)).w=if(aI ((k.val:Int)+1)).f=6 then 3 else 1:=by decide
 obtain⟨k,A⟩:=ex37 v.o;unfold enW;rw[A,this k];split<;>rfl
theorem en_le(i:InsT):(enW i).length<=3:=by unfold enW;split<;>simp
theorem enc_app(l m:List InsT):i0 (l++m)=i0 l++i0 m:=by unfold i0;rw[a2r]
theorem nM{l:List InsT}{k:Nat}(A:k<l.length):i0 (l.take k)++enW (l.getD k default)=i0 (l.take (k+1)):=by rw[bx A (d:=default),enc_app];unfold i0;simp
theorem enc_le: ∀l:List InsT,(i0 l).length<=3 *l.length
 | []=>a0d _
 |i::l=>by have A:=enc_le l;have E:=en_le i;rw[show i0 (i::l)=enW i++i0 l from V,a02,a04];omega
end eb
open eb
namespace ed
variable (ex:FuncId) {F:Fz} {H:Heap} {R:List Fp}
theorem a_2{p:Prop}(h:p:=by first|omega|(unfold fA;omega)|(unfold fB;omega)|(unfold fN;omega)):p:=h
theorem flds_c(f:Int)(H:Heap):kKt ex 124 [(iI f)] H fun v H'=> ∃(a:Bool) (b:Bool) (c:Bool) (n:Bool),H'=H/\v= .tuple ⟨[.bool a,.bool b,.bool c,.bool n]⟩/\a=decide (fA f)/\b=decide (fB f)/\c=decide (f=4)/\n=decide (fN f):=by
 refine aB Tryz.func124 V V (am 1 V (wT 3 [] 1 0 [2,3,4,5] [(2,(.bool false)),(3,(.bool false)),(4,(.bool false)),(5,(.bool false))] V fun _=>wT 3 [] 6 6 [] [(6,(iI f))] V fun _=>wT 1 [] 7 8 [] [(7,(.bool (f==2)))] V fun _=>zI 0 1 (fun c4=>?_) fun c4=>?_))
 ·refine wT 2 [] 1 0 [2] [(2,(.bool true))] V fun _=>ak ⟨.inr V,_,V,true,false,false,false,V,V,(decide_eq_true a_2).symm,(decide_eq_false a_2).symm,(decide_eq_false a_2).symm,(decide_eq_false a_2).symm⟩
 refine wT 1 [] 9 10 [] [(9,(.bool (f==3)))] V fun _=>zI 0 1 (fun Z=>?_) fun Z=>?_
 ·refine wT 2 [] 1 0 [2,3] [(2,(.bool true)),(3,(.bool true))] V fun _=>ak ⟨.inr V,_,V,true,true,false,false,V,V,(decide_eq_true a_2).symm,(decide_eq_true a_2).symm,(decide_eq_false a_2).symm,(decide_eq_false a_2).symm⟩
 refine wT 1 [] 11 12 [] [(11,(.bool (f==4)))] V fun _=>zI 0 2 (fun N=>?_) fun N=>?_
 ·refine wT 2 [] 1 0 [2,3,4] [(2,(.bool true)),(3,(.bool true)),(4,(.bool true))] V fun _=>ak ⟨.inr V,_,V,true,true,true,false,V,V,(decide_eq_true a_2).symm,(decide_eq_true a_2).symm,(decide_eq_true a_2).symm,(decide_eq_false a_2).symm⟩
 refine wT 1 [] 13 14 [] [(13,(.bool (f==5)))] V fun _=>zi 1 0 (fun A=>?_) fun A=>?_
 ·have E:=A;try simp only[BS]at E
  refine aX 0 (v:=(f==5)) V A V V (wT 2 [] 1 0 [2,5] [(2,(.bool true)),(5,(.bool true))] V fun _=>ak ⟨.inr V,_,V,true,false,false,true,V,V,(decide_eq_true a_2).symm,(decide_eq_false a_2).symm,(decide_eq_false a_2).symm,(decide_eq_true a_2).symm⟩)
 have E:=A;try simp only[BS]at E
 refine wT 1 [] 13 15 [] [(13,(.bool (f==6)))] V fun _=>zI 0 1 (fun T=>?_) fun T=>?_
 ·refine wT 2 [] 1 0 [2,5] [(2,(.bool true)),(5,(.bool true))] V fun _=>ak ⟨.inr V,_,V,true,false,false,true,V,V,(decide_eq_true a_2).symm,(decide_eq_false a_2).symm,(decide_eq_false a_2).symm,(decide_eq_true a_2).symm⟩
 refine wT 1 [] 16 17 [] [(16,(.bool (f==7)))] V fun _=>zI 0 1 (fun U=>?_) fun U=>?_
 ·refine wT 2 [] 1 0 [2,3,5] [(2,(.bool true)),(3,(.bool true)),(5,(.bool true))] V fun _=>ak ⟨.inr V,_,V,true,true,false,true,V,V,(decide_eq_true a_2).symm,(decide_eq_true a_2).symm,(decide_eq_false a_2).symm,(decide_eq_true a_2).symm⟩
 refine wT 1 [] 18 19 [] [(18,(.bool (f==8)))] V fun _=>zI 0 2 (fun a_=>?_) fun a_=>?_
 ·refine wT 2 [] 1 0 [5] [(5,(.bool true))] V fun _=>ak ⟨.inr V,_,V,false,false,false,true,V,V,(decide_eq_false a_2).symm,(decide_eq_false a_2).symm,(decide_eq_false a_2).symm,(decide_eq_true a_2).symm⟩
 refine ak ⟨.inr V,_,V,false,false,false,false,V,V,(decide_eq_false a_2).symm,(decide_eq_false a_2).symm,(decide_eq_false a_2).symm,(decide_eq_false a_2).symm⟩
theorem flds_c_q(f:Int)(H:Heap):kKt ex 124 [f] H fun v H'=>v=(.tuple ⟨[(decide (fA f)),(decide (fB f)),(decide (f=4)),(decide (fN f))]⟩)/\H'=H:=
 cq (flds_c ex f H) (by rintro _ _ ⟨_,_,_,_,rfl,rfl,rfl,rfl,rfl,rfl⟩;exact⟨V,V⟩)
theorem imr_c(op:Int)(H:Heap):kKt ex 125 [op] H fun v H'=> ∃(lo:Int) (hi:Int),H'=H/\v= .tuple ⟨[iI lo,iI hi]⟩/\lo=loP op/\hi=hiP op:=by
 refine aB Tryz.func125 V V (am 1 V (wT 3 [] 2 3 [] [(2,(iI 0)),(3,(iI 0))] V fun _=>wT 3 [] 4 4 [] [(4,op)] V fun _=>wT 1 [] 5 6 [] [(5,(op==14))] V fun _=>zI 1 1 (fun c4=>?_) fun c4=>?_))
 ·refine wT 1 [] 2 3 [] [(2,(iI (-9223372036854775808))),(3,(iI 9223372036854775807))] V fun _=>ak ⟨.inr V,_,V,(-9223372036854775808),9223372036854775807,V,V,(by unfold loP;(repeat' split)<;>first|rfl|omega),(by unfold hiP;(repeat' split)<;>first|rfl|omega)⟩
 refine wT 1 [] 7 8 [] [(7,(op==4))] V fun _=>zI 1 1 (fun c7=>?_) fun c7=>?_
 ·refine wT 1 [] 2 3 [] [(2,(iI 1)),(3,(iI 33554431))] V fun _=>ak ⟨.inr V,_,V,1,33554431,V,V,(by unfold loP;(repeat' split)<;>first|rfl|omega),(by unfold hiP;(repeat' split)<;>first|rfl|omega)⟩
 refine wT 1 [] 9 10 [] [(9,(op==5))] V fun _=>zI 1 1 (fun U=>?_) fun U=>?_
 ·refine wT 1 [] 2 3 [] [(2,(iI (-33554432))),(3,(iI 33554431))] V fun _=>ak ⟨.inr V,_,V,(-33554432),33554431,V,V,(by unfold loP;(repeat' split)<;>first|rfl|omega),(by unfold hiP;(repeat' split)<;>first|rfl|omega)⟩
 refine wT 1 [] 11 12 [] [(11,(op==6))] V fun _=>zI 1 2 (fun a_=>?_) fun a_=>?_
 ·refine wT 1 [] 2 3 [] [(2,(iI 0)),(3,(iI 7))] V fun _=>ak ⟨.inr V,_,V,0,7,V,V,(by unfold loP;(repeat' split)<;>first|rfl|omega),(by unfold hiP;(repeat' split)<;>first|rfl|omega)⟩
 refine wT 1 [] 13 14 [] [(13,(op==34))] V fun _=>zi 1 0 (fun A=>?_) fun A=>?_
 ·have N:=A;try simp only[BS]at N
  refine aX 1 (v:=(op==34)) V A V V (wT 1 [] 2 3 [] [(2,(iI 0)),(3,(iI 3))] V fun _=>ak ⟨.inr V,_,V,0,3,V,V,(by unfold loP;(repeat' split)<;>first|rfl|omega),(by unfold hiP;(repeat' split)<;>first|rfl|omega)⟩)
 have N:=A;try simp only[BS]at N
 refine wT 1 [] 13 15 [] [(13,(op==35))] V fun _=>zI 1 2 (fun Z=>?_) fun Z=>?_
 ·refine wT 1 [] 2 3 [] [(2,(iI 0)),(3,(iI 3))] V fun _=>ak ⟨.inr V,_,V,0,3,V,V,(by unfold loP;(repeat' split)<;>first|rfl|omega),(by unfold hiP;(repeat' split)<;>first|rfl|omega)⟩
 refine wT 1 [] 16 17 [] [(16,(op==36))] V fun _=>zi 1 0 (fun E=>?_) fun E=>?_
 ·have T:=E;try simp only[BS]at T
  refine aX 1 (v:=(op==36)) V E V V (wT 1 [] 2 3 [] [(2,(iI 0)),(3,(iI 2999))] V fun _=>ak ⟨.inr V,_,V,0,2999,V,V,(by unfold loP;(repeat' split)<;>first|rfl|omega),(by unfold hiP;(repeat' split)<;>first|rfl|omega)⟩)
 have T:=E;try simp only[BS]at T
 refine wT 1 [] 16 18 [] [(16,(op==37))] V fun _=>zI 1 3 (fun aa=>?_) fun aa=>?_
 ·refine wT 1 [] 2 3 [] [(2,(iI 0)),(3,(iI 2999))] V fun _=>ak ⟨.inr V,_,V,0,2999,V,V,(by unfold loP;(repeat' split)<;>first|rfl|omega),(by unfold hiP;(repeat' split)<;>first|rfl|omega)⟩
 refine wT 1 [] 2 3 [] [(2,(iI (-4194304))),(3,(iI 4194303))] V fun _=>ak ⟨.inr V,_,V,(-4194304),4194303,V,V,(by unfold loP;(repeat' split)<;>first|rfl|omega),(by unfold hiP;(repeat' split)<;>first|rfl|omega)⟩
theorem imr_c_q(op:Int)(H:Heap):kKt ex 125 [op] H fun v H'=>v=(.tuple ⟨[(loP op),(hiP op)]⟩)/\H'=H:=
 cq (imr_c ex op H) (by rintro _ _ ⟨_,_,rfl,rfl,rfl,rfl⟩;exact⟨V,V⟩)
theorem shf_c(f:Int)(H:Heap):kKt ex 126 [f] H fun v H'=> ∃(r:Int),H'=H/\v= .int .u64 r/\r=((shN f:Nat):Int):=by
 refine aB Tryz.func126 V V (am 1 V (wT 3 [] 2 2 [] [(2,(.int .u64 0))] V fun _=>wT 3 [] 3 3 [] [(3,f)] V fun _=>wT 1 [] 4 5 [] [(4,(f==8))] V fun _=>zI 1 1 (fun c4=>?_) fun c4=>?_))
 ·refine wT 1 [] 2 2 [] [(2,(.int .u64 6))] V fun _=>ak ⟨.inr V,_,V,6,V,V,(by unfold shN;(repeat' split)<;>first|rfl|omega)⟩
 refine wT 1 [] 6 7 [] [(6,(f==5))] V fun _=>zI 1 1 (fun E=>?_) fun E=>?_
 ·refine wT 1 [] 2 2 [] [(2,(.int .u64 9))] V fun _=>ak ⟨.inr V,_,V,9,V,V,(by unfold shN;(repeat' split)<;>first|rfl|omega)⟩
 refine wT 1 [] 8 9 [] [(8,(f==7))] V fun _=>zI 1 3 (fun A=>?_) fun A=>?_
 ·refine wT 1 [] 2 2 [] [(2,(.int .u64 12))] V fun _=>ak ⟨.inr V,_,V,12,V,V,(by unfold shN;(repeat' split)<;>first|rfl|omega)⟩
 refine wT 1 [] 2 2 [] [(2,(.int .u64 32))] V fun _=>ak ⟨.inr V,_,V,32,V,V,(by unfold shN;(repeat' split)<;>first|rfl|omega)⟩
theorem shf_c_q(f:Int)(H:Heap):kKt ex 126 [f] H fun v H'=>v=(.int .u64 ((shN f:Nat):Int))/\H'=H:=
 cq (shf_c ex f H) (by rintro _ _ ⟨_,rfl,rfl,rfl⟩;exact⟨V,V⟩)
theorem fld_c(f:Int)(H:Heap):kKt ex 84 [f] H fun v H'=> ∃(N:Int) (n:Int),H'=H/\v= .tuple ⟨[.int .u64 N,.int .u64 n]⟩/\N=((fatN f:Nat):Int)/\n=((fnbN f:Nat):Int):=by
 refine aB Tryz.func84 V V (am 1 V (wT 3 [] 2 3 [] [(2,(.int .u64 0)),(3,(.int .u64 0))] V fun _=>wT 3 [] 4 4 [] [(4,f)] V fun _=>wT 1 [] 5 6 [] [(5,(f==8))] V fun _=>zI 1 1 (fun c4=>?_) fun c4=>?_))
 ·refine wT 1 [] 2 3 [] [(2,(.int .u64 6)),(3,(.int .u64 26))] V fun _=>ak ⟨.inr V,_,V,6,26,V,V,(by unfold fatN;(repeat' split)<;>first|rfl|omega),(by unfold fnbN;(repeat' split)<;>first|rfl|omega)⟩
 refine wT 1 [] 7 8 [] [(7,(f==5))] V fun _=>zI 1 1 (fun E=>?_) fun E=>?_
 ·refine wT 1 [] 2 3 [] [(2,(.int .u64 9)),(3,(.int .u64 23))] V fun _=>ak ⟨.inr V,_,V,9,23,V,V,(by unfold fatN;(repeat' split)<;>first|rfl|omega),(by unfold fnbN;(repeat' split)<;>first|rfl|omega)⟩
 refine wT 1 [] 9 10 [] [(9,(f==7))] V fun _=>zI 1 3 (fun A=>?_) fun A=>?_
 ·refine wT 1 [] 2 3 [] [(2,(.int .u64 12)),(3,(.int .u64 20))] V fun _=>ak ⟨.inr V,_,V,12,20,V,V,(by unfold fatN;(repeat' split)<;>first|rfl|omega),(by unfold fnbN;(repeat' split)<;>first|rfl|omega)⟩
 refine wT 1 [] 2 3 [] [(2,(.int .u64 0)),(3,(.int .u64 0))] V fun _=>ak ⟨.inr V,_,V,0,0,V,V,(by unfold fatN;(repeat' split)<;>first|rfl|omega),(by unfold fnbN;(repeat' split)<;>first|rfl|omega)⟩
theorem fld_c_q(f:Int)(H:Heap):kKt ex 84 [f] H fun v H'=>v=(.tuple ⟨[(.int .u64 ((fatN f:Nat):Int)),(.int .u64 ((fnbN f:Nat):Int))]⟩)/\H'=H:=
 cq (fld_c ex f H) (by rintro _ _ ⟨_,_,rfl,rfl,rfl,rfl⟩;exact⟨V,V⟩)
theorem bnd_c(op:Int)(H:Heap):kKt ex 129 [op] H fun v H'=> ∃(lo:Int) (hi:Int),H'=H/\v= .tuple ⟨[iI lo,iI hi]⟩/\lo=loN op/\hi=hiN op:=by
 refine aB Tryz.func129 V V (am 1 V (wT 3 [] 2 3 [] [(2,(iI 0)),(3,(iI 0))] V fun _=>wT 3 [] 4 4 [] [(4,op)] V fun _=>wT 1 [] 5 6 [] [(5,(op==4))] V fun _=>zI 1 1 (fun c4=>?_) fun c4=>?_))
 ·refine wT 1 [] 2 3 [] [(2,(iI 1)),(3,(iI 33554431))] V fun _=>ak ⟨.inr V,_,V,1,33554431,V,V,(by unfold loN;(repeat' split)<;>first|rfl|omega),(by unfold hiN;(repeat' split)<;>first|rfl|omega)⟩
 refine wT 1 [] 7 8 [] [(7,(op==5))] V fun _=>zI 1 1 (fun c7=>?_) fun c7=>?_
 ·refine wT 1 [] 2 3 [] [(2,(iI (-33554432))),(3,(iI 33554431))] V fun _=>ak ⟨.inr V,_,V,(-33554432),33554431,V,V,(by unfold loN;(repeat' split)<;>first|rfl|omega),(by unfold hiN;(repeat' split)<;>first|rfl|omega)⟩
 refine wT 1 [] 9 10 [] [(9,(op==6))] V fun _=>zI 1 2 (fun ap=>?_) fun ap=>?_
 ·refine wT 1 [] 2 3 [] [(2,(iI 0)),(3,(iI 7))] V fun _=>ak ⟨.inr V,_,V,0,7,V,V,(by unfold loN;(repeat' split)<;>first|rfl|omega),(by unfold hiN;(repeat' split)<;>first|rfl|omega)⟩
 refine wT 1 [] 11 12 [] [(11,(op==34))] V fun _=>zi 1 0 (fun A=>?_) fun A=>?_
 ·have a_:=A;try simp only[BS]at a_
  refine aX 1 (v:=(op==34)) V A V V (wT 1 [] 2 3 [] [(2,(iI 0)),(3,(iI 3))] V fun _=>ak ⟨.inr V,_,V,0,3,V,V,(by unfold loN;(repeat' split)<;>first|rfl|omega),(by unfold hiN;(repeat' split)<;>first|rfl|omega)⟩)
 have a_:=A;try simp only[BS]at a_
 refine wT 1 [] 11 13 [] [(11,(op==35))] V fun _=>zI 1 2 (fun aq=>?_) fun aq=>?_
 ·refine wT 1 [] 2 3 [] [(2,(iI 0)),(3,(iI 3))] V fun _=>ak ⟨.inr V,_,V,0,3,V,V,(by unfold loN;(repeat' split)<;>first|rfl|omega),(by unfold hiN;(repeat' split)<;>first|rfl|omega)⟩
 refine wT 1 [] 14 15 [] [(14,(op==36))] V fun _=>zi 1 0 (fun E=>?_) fun E=>?_
 ·have Z:=E;try simp only[BS]at Z
  refine aX 1 (v:=(op==36)) V E V V (wT 1 [] 2 3 [] [(2,(iI 0)),(3,(iI 2999))] V fun _=>ak ⟨.inr V,_,V,0,2999,V,V,(by unfold loN;(repeat' split)<;>first|rfl|omega),(by unfold hiN;(repeat' split)<;>first|rfl|omega)⟩)
 have Z:=E;try simp only[BS]at Z
 refine wT 1 [] 14 16 [] [(14,(op==37))] V fun _=>zI 1 1 (fun ar=>?_) fun ar=>?_
 ·refine wT 1 [] 2 3 [] [(2,(iI 0)),(3,(iI 2999))] V fun _=>ak ⟨.inr V,_,V,0,2999,V,V,(by unfold loN;(repeat' split)<;>first|rfl|omega),(by unfold hiN;(repeat' split)<;>first|rfl|omega)⟩
 refine wT 1 [] 17 18 [] [(17,(op==14))] V fun _=>zI 1 2 (fun av=>?_) fun av=>?_
 ·refine wT 1 [] 2 3 [] [(2,(iI (-9223372036854775808))),(3,(iI 9223372036854775807))] V fun _=>ak ⟨.inr V,_,V,(-9223372036854775808),9223372036854775807,V,V,(by unfold loN;(repeat' split)<;>first|rfl|omega),(by unfold hiN;(repeat' split)<;>first|rfl|omega)⟩
 refine wT 1 [] 19 20 [] [(19,(op==7))] V fun _=>zi 1 1 (fun N=>?_) fun N=>?_
 ·have aa:=N;try simp only[BS]at aa
  refine aX 1 (v:=(op==7)) V N V V (wT 1 [] 2 3 [] [(2,(iI (-4194304))),(3,(iI 4194303))] V fun _=>ak ⟨.inr V,_,V,(-4194304),4194303,V,V,(by unfold loN;(repeat' split)<;>first|rfl|omega),(by unfold hiN;(repeat' split)<;>first|rfl|omega)⟩)
 have aa:=N;try simp only[BS]at aa
 refine wT 1 [] 19 21 [] [(19,(op==8))] V fun _=>zi 1 1 (fun T=>?_) fun T=>?_
 ·have ag:=T;try simp only[BS]at ag
  refine aX 1 (v:=(op==8)) V T V V (wT 1 [] 2 3 [] [(2,(iI (-4194304))),(3,(iI 4194303))] V fun _=>ak ⟨.inr V,_,V,(-4194304),4194303,V,V,(by unfold loN;(repeat' split)<;>first|rfl|omega),(by unfold hiN;(repeat' split)<;>first|rfl|omega)⟩)
 have ag:=T;try simp only[BS]at ag
 refine wT 1 [] 19 22 [] [(19,(op==13))] V fun _=>zi 1 0 (fun U=>?_) fun U=>?_
 ·have an:=U;try simp only[BS]at an
  refine aX 1 (v:=(op==13)) V U V V (wT 1 [] 2 3 [] [(2,(iI (-4194304))),(3,(iI 4194303))] V fun _=>ak ⟨.inr V,_,V,(-4194304),4194303,V,V,(by unfold loN;(repeat' split)<;>first|rfl|omega),(by unfold hiN;(repeat' split)<;>first|rfl|omega)⟩)
 have an:=U;try simp only[BS]at an
 refine wT 1 [] 19 23 [] [(19,(op==33))] V fun _=>zI 1 3 (fun aw=>?_) fun aw=>?_
 ·refine wT 1 [] 2 3 [] [(2,(iI (-4194304))),(3,(iI 4194303))] V fun _=>ak ⟨.inr V,_,V,(-4194304),4194303,V,V,(by unfold loN;(repeat' split)<;>first|rfl|omega),(by unfold hiN;(repeat' split)<;>first|rfl|omega)⟩
 refine wT 1 [] 2 3 [] [(2,(iI 0)),(3,(iI 0))] V fun _=>ak ⟨.inr V,_,V,0,0,V,V,(by unfold loN;(repeat' split)<;>first|rfl|omega),(by unfold hiN;(repeat' split)<;>first|rfl|omega)⟩
theorem bnd_c_q(op:Int)(H:Heap):kKt ex 129 [op] H fun v H'=>v=(.tuple ⟨[(loN op),(hiN op)]⟩)/\H'=H:=
 cq (bnd_c ex op H) (by rintro _ _ ⟨_,_,rfl,rfl,rfl,rfl⟩;exact⟨V,V⟩)
theorem reg_c(n:Int)(H:Heap):kKt ex 130 [n] H fun v H'=> ∃(r:Bool),H'=H/\v= .bool r/\r=(decide (0<=n)&&decide (n<8)):=by refine aB Tryz.func130 V V (am 1 V (wT 2 [] 2 2 [] [(2,false)] V fun _=>wT 1 [] 2 8 [] [(2,((decide ((0:Int)<=n))&&(decide (n<8))))] V fun _=>ak ⟨.inr V,_,V,((decide ((0:Int)<=n))&&(decide (n<8))),V,V,m_⟩))
theorem reg_c_q(n:Int)(H:Heap):kKt ex 130 [n] H fun v H'=>v=(.bool (decide (0<=n)&&decide (n<8)))/\H'=H:=
 cq (reg_c ex n H) (by rintro _ _ ⟨_,rfl,rfl,rfl⟩;exact⟨V,V⟩)
theorem mval_c(i:InsT)(hs:Hb H F H [] R)(an:in64 i.op)(ap:in64 i.a)(aq:in64 i.b)(ar:in64 i.c)(av:in64 i.n)(hT:TB 37 tabC F)(hv:VldI i):kKt ex 73 [(aG [i.op,i.a,i.b,i.c,i.n])] H fun v H'=> ∃(r:Bool),∃F',F.le F'/\Hb H F' H' [] R/\v= .bool r/\r=true:=by
 have q0:=hv.o;have q1:=hv.a;have q2:=hv.a6;have q3:=hv.b;have q4:=hv.c;refine aB Tryz.func73 V V (am 1 V (ab (aT (aN hs V V) V V ?_)));rintro _ H2 _ ⟨b1,rfl,E,_⟩;refine za (.bool false) (ae 2 V (ab (aS 2 0 13 14 [] [(14,i.op)] (Hr_ 1 0 Hn_) E V V fun _=>zc (m1.gZ ex i.op (HS.call E) M hT) ?_)));rintro _ H4 ⟨x4,o4,F4,T,N,rfl,Z,aa,rfl,rfl⟩;replace N:=HS.back E V N;refine bK 3 3 16 17 [12] [(16,(aG [(tX (aI i.op).name.b),(aI i.op).f,(.bool (aI i.op).ra),(.bool (aI i.op).wa),(.bool (aI i.op).rb),(.bool (aI i.op).mt),(aI i.op).w])),(17,(infO i.op))] Hn_ K_ V fun _=>zn N V fun b6 H7 ag=>sgo 2 7 1 0 [4] [(4,(infO i.op))] (Hr_ 7 1 Hn_) ag V V fun aw U A=>ae 3 V (wT 1 [] 18 19 [] [(19,(!(infO i.op)))] V fun _=>dy 2 (v:=(!(infO i.op))) V (by rw[infO_at (op:=i.op) hv.o];rfl) V V ?_)
 refine aU 3 20 27 [5,6,7,8] [(5,(decide (fA (aI i.op).f))),(6,(decide (fB (aI i.op).f))),(7,(decide ((aI i.op).f=4))),(8,(decide (fN (aI i.op).f)))] (Hr_ 1 1 (Hc_ 2 (flds_c_q ex (aI i.op).f U) Hn_)) A V V fun _=>wrp 1 28 61 [] [(61,(((((!(decide (fA (aI i.op).f)))&&(i.a !=0))||((!(decide (fB (aI i.op).f)))&&(i.b !=0)))||((!(decide ((aI i.op).f=4)))&&(i.c !=0)))||((!(decide (fN (aI i.op).f)))&&(i.n !=0))))] (bp 4 (fun _=>(ql 3 1 (h_ A V) V V)) (iu 12 (fun _ _=>(ql 3 2 (h_ A V) V V)) (iu 21 (fun _ _=>(ql 3 3 (h_ A V) V V)) (iu 30 (fun _ _=>(ql 2 4 (h_ A V) V V)) Hn_)))) V V fun _=>dy 2 (v:=(((((!(decide (fA (aI i.op).f)))&&(i.a !=0))||((!(decide (fB (aI i.op).f)))&&(i.b !=0)))||((!(decide ((aI i.op).f=4)))&&(i.c !=0)))||((!(decide (fN (aI i.op).f)))&&(i.n !=0)))) V (hv.c1) V V (wT 3 [] 1 0 [9] [(9,(iI 7))] V fun _=>aU 1 62 64 [] [(64,(i.op==6))] (Hr_ 1 0 Hn_) A V V fun _=>zI 0 3 (fun a_=>?_) fun a_=>?_)
 ·refine wT 3 [] 1 0 [9] [(9,(iI 6))] V fun _=>aU 1 65 93 [] [(93,((((((decide (i.a<0))||(decide ((6:Int)<i.a)))||(decide (i.b<0)))||(decide ((8:Int)<=i.b)))||(decide (i.c<0)))||(decide ((8:Int)<=i.c))))] (Hr_ 1 0 (bp 5 (fun _=>(ql 3 1 (h_ A V) V V)) (bp 11 (fun _=>(ql 3 2 (h_ A V) V V)) (bp 16 (fun _=>(ql 3 2 (h_ A V) V V)) (bp 21 (fun _=>(ql 3 3 (h_ A V) V V)) (bp 26 (fun _=>(ql 3 3 (h_ A V) V V)) Hn_)))))) A V V fun _=>dy 2 (v:=((((((decide (i.a<0))||(decide ((6:Int)<i.a)))||(decide (i.b<0)))||(decide ((8:Int)<=i.b)))||(decide (i.c<0)))||(decide ((8:Int)<=i.c)))) V l_ V V (aU 2 94 99 [10,11] [(10,(loP i.op)),(11,(hiP i.op))] (Hr_ 1 0 (Hc_ 2 (imr_c_q ex i.op U) Hn_)) A V V fun _=>wrp 1 100 113 [2] [(2,((!(decide (fN (aI i.op).f)))||((decide (loP i.op<=i.n))&&(decide (i.n<=hiP i.op)))))] (bp 4 (fun _=>(ql 2 4 (h_ A V) V V)) (iu 9 (fun _ _=>(ql 2 4 (h_ A V) V V)) Hn_)) V V fun _=>ak ⟨.inr V,_,V,((!(decide (fN (aI i.op).f)))||((decide (loP i.op<=i.n))&&(decide (i.n<=hiP i.op)))),_,(T),(HS.forget A),V,(hv.c2 M)⟩)
 refine aU 1 65 93 [] [(93,((((((decide (i.a<0))||(decide ((7:Int)<i.a)))||(decide (i.b<0)))||(decide ((8:Int)<=i.b)))||(decide (i.c<0)))||(decide ((8:Int)<=i.c))))] (Hr_ 1 0 (bp 5 (fun _=>(ql 3 1 (h_ A V) V V)) (bp 11 (fun _=>(ql 3 2 (h_ A V) V V)) (bp 16 (fun _=>(ql 3 2 (h_ A V) V V)) (bp 21 (fun _=>(ql 3 3 (h_ A V) V V)) (bp 26 (fun _=>(ql 3 3 (h_ A V) V V)) Hn_)))))) A V V fun _=>dy 2 (v:=((((((decide (i.a<0))||(decide ((7:Int)<i.a)))||(decide (i.b<0)))||(decide ((8:Int)<=i.b)))||(decide (i.c<0)))||(decide ((8:Int)<=i.c)))) V l_ V V (aU 2 94 99 [10,11] [(10,(loP i.op)),(11,(hiP i.op))] (Hr_ 1 0 (Hc_ 2 (imr_c_q ex i.op U) Hn_)) A V V fun _=>wrp 1 100 113 [2] [(2,((!(decide (fN (aI i.op).f)))||((decide (loP i.op<=i.n))&&(decide (i.n<=hiP i.op)))))] (bp 4 (fun _=>(ql 2 4 (h_ A V) V V)) (iu 9 (fun _ _=>(ql 2 4 (h_ A V) V V)) Hn_)) V V fun _=>ak ⟨.inr V,_,V,((!(decide (fN (aI i.op).f)))||((decide (loP i.op<=i.n))&&(decide (i.n<=hiP i.op)))),_,(T),(HS.forget A),V,(hv.c2 M)⟩)
theorem rval_c(i:InsT)(hs:Hb H F H [] R)(T:in64 i.op)(U:in64 i.a)(a_:in64 i.b)(Z:in64 i.c)(aa:in64 i.n)(hT:TB 37 tabC F)(hv:VldI i):kKt ex 83 [(aG [i.op,i.a,i.b,i.c,i.n])] H fun v H'=> ∃(r:Bool),∃F',F.le F'/\Hb H F' H' [] R/\v= .bool r/\r=true:=by
 have q0:=hv.o;have q1:=hv.a;have q2:=hv.a6;have q3:=hv.b;have q4:=hv.c;refine aB Tryz.func83 V V (am 1 V (ab (aT (aN hs V V) V V ?_)));rintro _ E _ ⟨b1,rfl,A,_⟩;refine za (.bool false) (ae 2 V ?_);have ag:=kt i.op;refine aU 2 8 10 [3] [(3,(aZ i.op))] (Hr_ 1 0 (Hc_ 2 (m1.nJ ex i.op E) Hn_)) A V V fun _=>aU 3 11 16 [4,5] [(4,(loN i.op)),(5,(hiN i.op))] (Hr_ 1 0 (Hc_ 2 (bnd_c_q ex i.op E) Hn_)) A V V fun _=>wrp 1 17 30 [] [(30,(((aZ i.op==0)||(decide (i.n<loN i.op)))||(decide (hiN i.op<i.n))))] (bp 4 (fun _=>(ql 2 4 (h_ A V) V V)) (bp 10 (fun _=>(ql 2 4 (h_ A V) V V)) Hn_)) V V fun _=>dy 2 (v:=(((aZ i.op==0)||(decide (i.n<loN i.op)))||(decide (hiN i.op<i.n)))) V (hv.c3 M) V V (wT 2 [] 31 36 [6] [(6,((aZ i.op !=1)&&(aZ i.op !=8)))] V fun _=>wT 3 [] 37 46 [7] [(7,(((aZ i.op==3)||(aZ i.op==4))||(aZ i.op==7)))] V fun _=>?_)
 refine wrp 1 47 71 [] [(71,((((!((aZ i.op !=1)&&(aZ i.op !=8)))&&(i.a !=0))||((!(((aZ i.op==3)||(aZ i.op==4))||(aZ i.op==7)))&&(i.b !=0)))||((aZ i.op !=4)&&(i.c !=0))))] (bp 4 (fun _=>(ql 3 1 (h_ A V) V V)) (iu 12 (fun _ _=>(ql 3 2 (h_ A V) V V)) (iu 21 (fun _ _=>(ql 3 3 (h_ A V) V V)) Hn_))) V V fun _=>dy 3 (v:=((((!((aZ i.op !=1)&&(aZ i.op !=8)))&&(i.a !=0))||((!(((aZ i.op==3)||(aZ i.op==4))||(aZ i.op==7)))&&(i.b !=0)))||((aZ i.op !=4)&&(i.c !=0)))) V (hv.c4) V V (aU 1 72 74 [] [(74,(i.op==6))] (Hr_ 1 0 Hn_) A V V fun _=>zI 1 2 (fun N=>?_) fun N=>?_)
 ·refine aU 1 75 82 [2] [(2,((decide ((0:Int)<=i.a))&&(decide (i.a<=6))))] (Hr_ 1 0 (bp 5 (fun _=>(ql 3 1 (h_ A V) V V)) Hn_)) A V V fun _=>ak ⟨.inr V,_,V,((decide ((0:Int)<=i.a))&&(decide (i.a<=6))),_,fR,(HS.forget A),V,l_⟩
 refine aU 1 83 95 [2] [(2,(((decide (0<=i.a)&&decide (i.a<8))&&(decide (0<=i.b)&&decide (i.b<8)))&&(decide (0<=i.c)&&decide (i.c<8))))] (Hr_ 1 0 (Hc_ 2 (reg_c_q ex i.a E) (bp 5 (fun _=>(ql 3 2 (h_ A V) V V)) (Hc1_ 6 (fun _=>(reg_c_q ex i.b E)) (bp 10 (fun _=>(ql 3 3 (h_ A V) V V)) (Hc1_ 11 (fun _=>(reg_c_q ex i.c E)) Hn_)))))) A V V fun _=>ak ⟨.inr V,_,V,(((decide (0<=i.a)&&decide (i.a<8))&&(decide (0<=i.b)&&decide (i.b<8)))&&(decide (0<=i.c)&&decide (i.c<8))),_,fR,(HS.forget A),V,l_⟩
theorem enc_c{ai al}(l:List InsT)(hs:Hb H F H [] R)(hl:Sr F ai l al)(hT:TB 37 tabC F)(hv: ∀k,k<l.length->VldI (l.getD k v_))(hB:l.length<=200000000):kKt ex 37 [(S_ ai l al)] H fun v H'=> ∃ar,∃(kr:Nat) (r:List U32) (e:Int),∃F',F.le F'/\Hb H F' H' [] R/\v= .tuple ⟨[sL ar r.length kr,iI e]⟩/\Sr F' ar r kr/\r=i0 l/\e=0:=by
 refine aB Tryz.func37 V V (am 1 V (wT 2 [] 2 3 [] [(2,N_),(3,(iI 0))] V fun _=>wT 3 [] 1 0 [4] [(4,N_)] V fun _=>wT 2 [] 7 9 [] [(7,(S_ ai l al)),(8,(l.length:Int)),(9,(iI 0))] V fun _=>?_));have dl:=HS.snoc hs;refine aj (fun(mm:Nat) f H'=> ∃(o:List U32) (k:Nat),∃N,∃(T:Nat),∃ag F',F.le F'/\Hb H F' H' [ag] R/\OZ F' N o T ag/\aA f [(4,(S_ N o T)),(7,(S_ ai l al)),(8,(l.length:Int)),(9,(k:Int))]/\mm=l.length-k/\(o=i0 (l.take k))/\(k<=l.length)) _ ⟨([]:List U32),0,none,0,[],_,fR,dl,(OS.nil:OS _ N_ ([]:List U32) []),f_,V,m_,M⟩ ?_;rintro g4 f4 H4 ⟨o,k,N,T,ag,F4,a1,a2,a_,a9,rfl,h1,hk⟩ dn;refine au _ a9 (fun _=>?_);clear a9;replace hT:=hT.mono a1;replace hl:=hl.mono a1;have hC:o.length<=3 *l.length:=by rw[h1];exact a0e (enc_le _) p_
 have hA:=en_le (l.getD k v_);refine am 1 V (wT 2 [] 10 10 [] [(10,(decide ((k:Int)<(l.length:Int))))] V fun _=>zd 4 5 (fun c7=>?_) fun c7=>?_)
 ·have gb:=hv k M;refine ab ?_;obtain⟨g1,bb⟩:=Sv.view (SR.sv hl a2);obtain⟨em,et,ez,e0,e1⟩:=InsT.fx (bb k);let a5:Value:=(aG [(l.getD k v_).op,(l.getD k v_).a,(l.getD k v_).b,(l.getD k v_).c,(l.getD k v_).n])
  refine bK 2 0 11 12 [] [(12,a5)] (Ha_ (Sv.ix (j:=(k:Int)) (SR.sv hl a2)) (Hl_ 1 (qn 86 0 5 (InsT.vw (bb k)) V V V V) Hn_)) K_ V fun _=>zn a2 V fun c9 fi b7=>sgo 1 3 1 0 [] [] (Hr_ 3 1 Hn_) b7 V V fun e2 fj av=>ae 3 V (ab (aS 1 0 13 13 [] [(13,a5)] (Hr_ 0 1 Hn_) av V V fun _=>?_))
  refine zc (mval_c ex (l.getD k v_) (HS.call av) M M M M M hT (gb)) ?_;rintro _ f0 ⟨g8,c6,ap,aa,rfl,rfl⟩;replace aa:=HS.back av V aa;replace hT:=hT.mono ap;replace a_:=a_.mono ap;refine bK 1 2 15 15 [] [(15,false)] Hn_ K_ V fun _=>ae 1 V (dy 1 (v:=false) V V V V (ab (aS 2 0 16 17 [] [(16,(S_ N o T)),(17,a5)] (Hr_ 1 1 Hn_) aa V V fun _=>zc (R:=fun v H'=> ∃(o3:List U32),∃A,∃(E:Nat),∃U F',c6.le F'/\Hb H F' H' [U,(fP c9 [(l.getD k v_).op,(l.getD k v_).a,(l.getD k v_).b,(l.getD k v_).c,(l.getD k v_).n])] R/\OZ F' A o3 E U/\v=(S_ A o3 E)/\(o3=o++enW (⟨(l.getD k v_).op,(l.getD k v_).a,(l.getD k v_).b,(l.getD k v_).c,(l.getD k v_).n⟩:InsT))) ?_ ?_)))
  ·refine aB Tryz.func74 V V (am 1 V (ab (aT (aN aa V V) V V ?_)));rintro _ f2 _ ⟨go,rfl,aw,_⟩;refine za N_ (ae 2 V (ab (aS 2 0 9 10 [] [(10,(l.getD k v_).op)] (Hr_ 1 2 Hn_) aw V V fun _=>zc (m1.gZ ex (l.getD k v_).op (HS.call aw) M hT) ?_)));rintro _ f3 ⟨g9,g5,e6,aq,ax,rfl,co,c5,rfl,rfl⟩;replace ax:=HS.back aw V ax;replace a_:=a_.mono aq;refine bK 3 3 12 13 [8] [(12,(aG [(tX (aI (l.getD k v_).op).name.b),(aI (l.getD k v_).op).f,(.bool (aI (l.getD k v_).op).ra),(.bool (aI (l.getD k v_).op).wa),(.bool (aI (l.getD k v_).op).rb),(.bool (aI (l.getD k v_).op).mt),(aI (l.getD k v_).op).w])),(13,(infO (l.getD k v_).op))] Hn_ K_ V fun _=>zn ax V fun gt f5 b9=>sgo 2 7 1 0 [6] [] (Hr_ 7 3 Hn_) b9 V V fun e3 c8 Z=>ae 2 V (aU 3 14 31 [7] [(7,(.int .u32 (aJ .or .u32 (aJ .or .u32 (aJ .or .u32 (IntKind.u32.wrap (l.getD k v_).op) (IntKind.u32.wrap ((IntKind.u32.wrap (l.getD k v_).a) *2^(Nat.min 6 32)))) (IntKind.u32.wrap ((IntKind.u32.wrap (l.getD k v_).b) *2^(Nat.min 9 32)))) (IntKind.u32.wrap ((IntKind.u32.wrap (l.getD k v_).c) *2^(Nat.min 12 32))))))] (Hr_ 1 2 (Hw_ 2 (.w) (Hr_ 4 2 (Hw_ 5 (.w) (Ha_ (show(0:Int)<=6 from by decide) (Hr_ 9 2 (Hw_ 10 (.w) (Ha_ (show(0:Int)<=9 from by decide) (Hr_ 14 2 (Hw_ 15 (.w) (Ha_ (show(0:Int)<=12 from by decide) Hn_))))))))))) Z V V fun _=>aU 1 32 34 [] [(34,((aI (l.getD k v_).op).f==6))] (Hr_ 1 3 Hn_) Z V V fun _=>?_)
   refine zI 1 2 (fun dd=>?_) fun dd=>?_
   ·refine ab (aS 10 0 35 44 [] [(35,(S_ N o T)),(36,(.int .u32 (aJ .or .u32 (aJ .or .u32 (aJ .or .u32 (IntKind.u32.wrap (l.getD k v_).op) (IntKind.u32.wrap ((IntKind.u32.wrap (l.getD k v_).a) *2^(Nat.min 6 32)))) (IntKind.u32.wrap ((IntKind.u32.wrap (l.getD k v_).b) *2^(Nat.min 9 32)))) (IntKind.u32.wrap ((IntKind.u32.wrap (l.getD k v_).c) *2^(Nat.min 12 32)))))),(39,(.int .u32 (IntKind.u32.wrap (l.getD k v_).n))),(44,(.int .u32 (IntKind.u32.wrap (Int.fdiv (IntKind.u64.wrap (l.getD k v_).n) (2^(Nat.min 32 64))))))] (Hr_ 3 2 (Hw_ 4 (.w) (Hr_ 6 2 (Hw_ 7 (.w) (Ha_ (show(0:Int)<=32 from by decide) (Hw_ 9 (.w) Hn_)))))) Z V V fun _=>zlo ([⟨aJ .or .u32 (aJ .or .u32 (aJ .or .u32 (IntKind.u32.wrap (l.getD k v_).op) (IntKind.u32.wrap ((IntKind.u32.wrap (l.getD k v_).a) *2^(Nat.min 6 32)))) (IntKind.u32.wrap ((IntKind.u32.wrap (l.getD k v_).b) *2^(Nat.min 9 32)))) (IntKind.u32.wrap ((IntKind.u32.wrap (l.getD k v_).c) *2^(Nat.min 12 32)))⟩,⟨IntKind.u32.wrap (l.getD k v_).n⟩,⟨IntKind.u32.wrap (Int.fdiv (IntKind.u64.wrap (l.getD k v_).n) (2^(Nat.min 32 64)))⟩]:List U32) Z V (RL.cs ⟨V,by exact fq _⟩ (RL.cs ⟨V,by exact fq _⟩ (RL.cs ⟨V,by exact fq _⟩ RL.nl))) V fun f8 g2 g6 f6 b2 a3=>zao 0 a_ a3 (OS.sv b2 a3 (i:=4) V) V V V M fun a7 bk ds f7 b3 cc=>za (sL a7 (o++([⟨aJ .or .u32 (aJ .or .u32 (aJ .or .u32 (IntKind.u32.wrap (l.getD k v_).op) (IntKind.u32.wrap ((IntKind.u32.wrap (l.getD k v_).a) *2^(Nat.min 6 32)))) (IntKind.u32.wrap ((IntKind.u32.wrap (l.getD k v_).b) *2^(Nat.min 9 32)))) (IntKind.u32.wrap ((IntKind.u32.wrap (l.getD k v_).c) *2^(Nat.min 12 32)))⟩,⟨IntKind.u32.wrap (l.getD k v_).n⟩,⟨IntKind.u32.wrap (Int.fdiv (IntKind.u64.wrap (l.getD k v_).n) (2^(Nat.min 32 64)))⟩]:List U32)).length bk) (ae 1 V ?_));refine ak ⟨.inr V,_,V,o++([⟨aJ .or .u32 (aJ .or .u32 (aJ .or .u32 (IntKind.u32.wrap (l.getD k v_).op) (IntKind.u32.wrap ((IntKind.u32.wrap (l.getD k v_).a) *2^(Nat.min 6 32)))) (IntKind.u32.wrap ((IntKind.u32.wrap (l.getD k v_).b) *2^(Nat.min 9 32)))) (IntKind.u32.wrap ((IntKind.u32.wrap (l.getD k v_).c) *2^(Nat.min 12 32)))⟩,⟨IntKind.u32.wrap (l.getD k v_).n⟩,⟨IntKind.u32.wrap (Int.fdiv (IntKind.u64.wrap (l.getD k v_).n) (2^(Nat.min 32 64)))⟩]:List U32),a7,bk,ds,_,(aq),(HS.sub cc (a01 _ _)),b3,V,(by(unfold enW;rw[if_pos X];rfl))⟩
   refine aC V (cN 10 47 56 [] [(47,(S_ N o T)),(56,(.int .u32 (aJ .or .u32 (aJ .or .u32 (aJ .or .u32 (aJ .or .u32 (IntKind.u32.wrap (l.getD k v_).op) (IntKind.u32.wrap ((IntKind.u32.wrap (l.getD k v_).a) *2^(Nat.min 6 32)))) (IntKind.u32.wrap ((IntKind.u32.wrap (l.getD k v_).b) *2^(Nat.min 9 32)))) (IntKind.u32.wrap ((IntKind.u32.wrap (l.getD k v_).c) *2^(Nat.min 12 32)))) (IntKind.u32.wrap ((IntKind.u32.wrap (l.getD k v_).n) *2^(Nat.min (shN (aI (l.getD k v_).op).f) 32))))))] (Hr_ 3 2 (Hw_ 4 (.w) (Hr_ 6 3 (Hc_ 7 (shf_c_q ex (aI (l.getD k v_).op).f {c8 with log:=[]}) (Ha_ (show(0:Int)<=((shN (aI (l.getD k v_).op).f:Nat):Int) from by omega) Hn_))))) Z rfl rfl fun _=>zld ([⟨aJ .or .u32 (aJ .or .u32 (aJ .or .u32 (aJ .or .u32 (IntKind.u32.wrap (l.getD k v_).op) (IntKind.u32.wrap ((IntKind.u32.wrap (l.getD k v_).a) *2^(Nat.min 6 32)))) (IntKind.u32.wrap ((IntKind.u32.wrap (l.getD k v_).b) *2^(Nat.min 9 32)))) (IntKind.u32.wrap ((IntKind.u32.wrap (l.getD k v_).c) *2^(Nat.min 12 32)))) (IntKind.u32.wrap ((IntKind.u32.wrap (l.getD k v_).n) *2^(Nat.min (shN (aI (l.getD k v_).op).f) 32)))⟩]:List U32) Z rfl (RL.cs ⟨rfl,by exact fq _⟩ RL.nl) rfl fun f9 g3 g7 dv b4 a4=>zad 0 a_ a4 (OS.sv b4 a4 (i:=4) rfl) rfl rfl rfl M (kb rfl) fun a8 bl dt d1 b5 ch=>fa (sL a8 (o++([⟨aJ .or .u32 (aJ .or .u32 (aJ .or .u32 (aJ .or .u32 (IntKind.u32.wrap (l.getD k v_).op) (IntKind.u32.wrap ((IntKind.u32.wrap (l.getD k v_).a) *2^(Nat.min 6 32)))) (IntKind.u32.wrap ((IntKind.u32.wrap (l.getD k v_).b) *2^(Nat.min 9 32)))) (IntKind.u32.wrap ((IntKind.u32.wrap (l.getD k v_).c) *2^(Nat.min 12 32)))) (IntKind.u32.wrap ((IntKind.u32.wrap (l.getD k v_).n) *2^(Nat.min (shN (aI (l.getD k v_).op).f) 32)))⟩]:List U32)).length bl) rfl rfl rfl (aW 1 rfl ?_));refine ak ⟨.inr V,_,V,o++([⟨aJ .or .u32 (aJ .or .u32 (aJ .or .u32 (aJ .or .u32 (IntKind.u32.wrap (l.getD k v_).op) (IntKind.u32.wrap ((IntKind.u32.wrap (l.getD k v_).a) *2^(Nat.min 6 32)))) (IntKind.u32.wrap ((IntKind.u32.wrap (l.getD k v_).b) *2^(Nat.min 9 32)))) (IntKind.u32.wrap ((IntKind.u32.wrap (l.getD k v_).c) *2^(Nat.min 12 32)))) (IntKind.u32.wrap ((IntKind.u32.wrap (l.getD k v_).n) *2^(Nat.min (shN (aI (l.getD k v_).op).f) 32)))⟩]:List U32),a8,bl,dt,_,(aq),(HS.sub ch (a01 _ _)),b5,V,(by(unfold enW;rw[if_neg X];rfl))⟩
  rintro _ f1 ⟨o3,A,E,U,e5,bz,b8,an,rfl,dk⟩;refine za (S_ A o3 E) (ae 2 V (wU 1 [] 9 9 [19] [(9,(iI ((k:Int)+1)))] (vi (n:=(k:Int)+1)) V fun _=>?_));refine dn _ _ _ ?_ ⟨o3,k+1,A,E,U,_,(fT (fT (a1) ap) bz),(HS.sub b8 (a01 _ _)),an,f_,V,(by rw[dk,h1];exact nM M),M⟩;omega
 refine wT 1 [] 2 3 [20] [(2,(S_ N o T)),(3,(iI 0))] V fun _=>?_
 obtain⟨fd,b1,ci,b6,e4⟩:=OS.frz a_ a2 (i:=0) V;refine ak ⟨.inr V,_,V,N,T,o,0,_,(fT (a1) b1),(HS.forget ci),V,b6,(by rw[h1,a0h M]),m_⟩
theorem renc_c{ad ai}(l:List InsT)(hs:Hb H F H [] R)(hl:Sr F ad l ai)(hT:TB 37 tabC F)(hv: ∀k,k<l.length->VldI (l.getD k v_))(ha:l.length<=200000000):kKt ex 42 [(S_ ad l ai)] H fun v H'=> ∃ar,∃(kr:Nat) (r:List U32) (e:Int),∃F',F.le F'/\Hb H F' H' [] R/\v= .tuple ⟨[sL ar r.length kr,iI e]⟩/\Sr F' ar r kr/\r=i0 l/\e=0:=by
 refine aB Tryz.func42 V V (am 1 V (wT 2 [] 2 3 [] [(2,N_),(3,(iI 0))] V fun _=>wT 3 [] 1 0 [4] [(4,N_)] V fun _=>wT 2 [] 1 0 [5] [(5,(iI 0))] V fun _=>?_));have ch:=HS.snoc hs;refine aj (fun(mm:Nat) f H'=> ∃(o:List U32) (k:Nat),∃A,∃(E:Nat),∃U F',F.le F'/\Hb H F' H' [U] R/\OZ F' A o E U/\aA f [(0,(S_ ad l ai)),(4,(S_ A o E)),(5,(k:Int))]/\mm=l.length-k/\(o=i0 (l.take k))/\(k<=l.length)) _ ⟨([]:List U32),0,none,0,[],_,fR,ch,(OS.nil:OS _ N_ ([]:List U32) []),f_,V,m_,M⟩ ?_;rintro fi f4 H4 ⟨o,k,A,E,U,F4,Z,ap,N,a8,rfl,h1,hk⟩ bb;refine au _ a8 (fun _=>?_);clear a8;replace hT:=hT.mono Z;replace hl:=hl.mono Z;have hb:o.length<=3 *l.length:=by rw[h1];exact a0e (enc_le _) p_
 refine am 2 V (wT 1 [] 10 13 [] [(13,(decide ((k:Int)<(l.length:Int))))] V fun _=>zd 4 5 (fun c7=>?_) fun c7=>?_)
 ·have al:=hv k M;refine ab ?_;obtain⟨e4,a9⟩:=Sv.view (SR.sv hl ap);obtain⟨c8,c9,dd,dk,dl⟩:=InsT.fx (a9 k);let bl:Value:=(aG [(l.getD k v_).op,(l.getD k v_).a,(l.getD k v_).b,(l.getD k v_).c,(l.getD k v_).n])
  refine bK 4 0 16 19 [] [(19,bl)] (Ha_ (Sv.ix (j:=(k:Int)) (SR.sv hl ap)) (Hl_ 3 (qn 86 0 5 (InsT.vw (a9 k)) V V V V) Hn_)) K_ V fun _=>zn ap V fun a7 d1 b4=>sgo 1 5 1 0 [] [] (Hr_ 5 1 Hn_) b4 V V fun dn d2 an=>ae 3 V (ab (aS 1 0 20 20 [] [(20,bl)] (Hr_ 0 1 Hn_) an V V fun _=>?_))
  refine zc (rval_c ex (l.getD k v_) (HS.call an) M M M M M hT (al)) ?_;rintro _ a4 ⟨f1,b8,aa,T,rfl,rfl⟩;replace T:=HS.back an V T;replace N:=N.mono aa;refine bK 1 2 22 22 [] [(22,false)] Hn_ K_ V fun _=>ae 1 V (dy 2 (v:=false) V V V V ?_)
  have c6:=kt (l.getD k v_).op;refine aU 2 23 29 [7,8] [(7,(.int .u64 ((fatN (aZ (l.getD k v_).op):Nat):Int))),(8,(.int .u64 ((fnbN (aZ (l.getD k v_).op):Nat):Int)))] (Hr_ 1 1 (Hc_ 2 (m1.nJ ex (l.getD k v_).op a4) (Hc_ 3 (fld_c_q ex (aZ (l.getD k v_).op) a4) Hn_))) T V V fun _=>aU 3 30 47 [9] [(9,(.int .u32 (aJ .or .u32 (aJ .or .u32 (aJ .or .u32 (IntKind.u32.wrap (l.getD k v_).op) (IntKind.u32.wrap ((IntKind.u32.wrap (l.getD k v_).a) *2^(Nat.min 6 32)))) (IntKind.u32.wrap ((IntKind.u32.wrap (l.getD k v_).b) *2^(Nat.min 9 32)))) (IntKind.u32.wrap ((IntKind.u32.wrap (l.getD k v_).c) *2^(Nat.min 12 32))))))] (Hr_ 1 1 (Hw_ 2 (.w) (Hr_ 4 1 (Hw_ 5 (.w) (Ha_ (show(0:Int)<=6 from by decide) (Hr_ 9 1 (Hw_ 10 (.w) (Ha_ (show(0:Int)<=9 from by decide) (Hr_ 14 1 (Hw_ 15 (.w) (Ha_ (show(0:Int)<=12 from by decide) Hn_))))))))))) T V V fun _=>wT 1 [] 48 49 [] [(49,(decide ((0:Int)<((fnbN (aZ (l.getD k v_).op):Nat):Int))))] V fun _=>ba (fun f H'=> ∃(x:Int),∃F',b8.le F'/\Hb H F' H' [U,(fP a7 [(l.getD k v_).op,(l.getD k v_).a,(l.getD k v_).b,(l.getD k v_).c,(l.getD k v_).n])] R/\aA f [(0,(S_ ad l ai)),(4,(S_ A o E)),(5,(k:Int)),(6,(pT a7 0)),(9,(.int .u32 x))]/\(x=xW (l.getD k v_))/\(0<=x/\x<4294967296)) (fun a1=>?_) ?_
  ·refine zd 0 0 (fun b9=>?_) fun b9=>?_
   ·refine aU 0 50 61 [9] [(9,(.int .u32 (aJ .or .u32 (aJ .or .u32 (aJ .or .u32 (aJ .or .u32 (IntKind.u32.wrap (l.getD k v_).op) (IntKind.u32.wrap ((IntKind.u32.wrap (l.getD k v_).a) *2^(Nat.min 6 32)))) (IntKind.u32.wrap ((IntKind.u32.wrap (l.getD k v_).b) *2^(Nat.min 9 32)))) (IntKind.u32.wrap ((IntKind.u32.wrap (l.getD k v_).c) *2^(Nat.min 12 32)))) (IntKind.u32.wrap ((IntKind.u32.wrap (aJ .and .u64 (IntKind.u64.wrap (l.getD k v_).n) (IntKind.u64.wrap ((IntKind.u64.wrap (1 *2^(Nat.min (fnbN (aZ (l.getD k v_).op)) 64)))-1)))) *2^(Nat.min (fatN (aZ (l.getD k v_).op)) 32))))))] (Hr_ 2 1 (Hw_ 3 (.w) (Ha_ (show(0:Int)<=((fnbN (aZ (l.getD k v_).op):Nat):Int) from by omega) (Hw_ 6 (.w) (Hw_ 8 (.w) (Ha_ (show(0:Int)<=((fatN (aZ (l.getD k v_).op):Nat):Int) from by omega) Hn_)))))) T V V fun _=>?_
    exact a1 _ _ ⟨aJ .or .u32 (aJ .or .u32 (aJ .or .u32 (aJ .or .u32 (IntKind.u32.wrap (l.getD k v_).op) (IntKind.u32.wrap ((IntKind.u32.wrap (l.getD k v_).a) *2^(Nat.min 6 32)))) (IntKind.u32.wrap ((IntKind.u32.wrap (l.getD k v_).b) *2^(Nat.min 9 32)))) (IntKind.u32.wrap ((IntKind.u32.wrap (l.getD k v_).c) *2^(Nat.min 12 32)))) (IntKind.u32.wrap ((IntKind.u32.wrap (aJ .and .u64 (IntKind.u64.wrap (l.getD k v_).n) (IntKind.u64.wrap ((IntKind.u64.wrap (1 *2^(Nat.min (fnbN (aZ (l.getD k v_).op)) 64)))-1)))) *2^(Nat.min (fatN (aZ (l.getD k v_).op)) 32))),_,fR,T,f_,(by unfold xW;first|(rw[if_pos M];rfl)|(rw[if_neg M];rfl)),(lO _ _ _)⟩
   exact a1 _ _ ⟨aJ .or .u32 (aJ .or .u32 (aJ .or .u32 (IntKind.u32.wrap (l.getD k v_).op) (IntKind.u32.wrap ((IntKind.u32.wrap (l.getD k v_).a) *2^(Nat.min 6 32)))) (IntKind.u32.wrap ((IntKind.u32.wrap (l.getD k v_).b) *2^(Nat.min 9 32)))) (IntKind.u32.wrap ((IntKind.u32.wrap (l.getD k v_).c) *2^(Nat.min 12 32))),_,fR,T,f_,(by unfold xW;first|(rw[if_pos M];rfl)|(rw[if_neg M];rfl)),(lO _ _ _)⟩
  skip;rintro e5 em ⟨x,dt,ag,b5,av,hx,hxr⟩;refine au _ av (fun _=>?_);clear av;replace N:=N.mono ag;refine am 2 V (ab (wTo 2 0 [] 62 63 [] [(62,(S_ A o E)),(63,(.int .u32 x))] V fun _=>zlo ([⟨x⟩]:List U32) b5 V (RL.cs ⟨V,by assumption⟩ RL.nl) V fun e2 e6 fj et bz ax=>zao 0 N ax (OS.sv bz ax (i:=2) V) V V V M fun aq a2 ci ez aw a_=>za (sL aq (o++([⟨x⟩]:List U32)).length a2) ?_));refine ae 2 V (aU 1 66 68 [] [(68,((l.getD k v_).op==14))] (Hr_ 1 1 Hn_) a_ V V fun _=>zI 0 2 (fun cc=>?_) fun cc=>?_)
  ·refine ab (aS 10 0 69 78 [] [(69,(sL aq (o++([⟨x⟩]:List U32)).length a2)),(73,(.int .u32 (IntKind.u32.wrap (IntKind.u64.wrap (l.getD k v_).n)))),(78,(.int .u32 (IntKind.u32.wrap (Int.fdiv (IntKind.u64.wrap (l.getD k v_).n) (2^(Nat.min 32 64))))))] (Hr_ 2 1 (Hw_ 3 (.w) (Hw_ 4 (.w) (Hr_ 6 1 (Hw_ 7 (.w) (Ha_ (show(0:Int)<=32 from by decide) (Hw_ 9 (.w) Hn_))))))) a_ V V fun _=>zlo ([⟨IntKind.u32.wrap (IntKind.u64.wrap (l.getD k v_).n)⟩,⟨IntKind.u32.wrap (Int.fdiv (IntKind.u64.wrap (l.getD k v_).n) (2^(Nat.min 32 64)))⟩]:List U32) a_ V (RL.cs ⟨V,by exact fq _⟩ (RL.cs ⟨V,by exact fq _⟩ RL.nl)) V fun e3 fd f0 e0 b1 ay=>zao 0 aw ay (OS.sv b1 ay (i:=3) V) V V V M fun a5 bk co e1 b2 b6=>za (sL a5 ((o++([⟨x⟩]:List U32))++([⟨IntKind.u32.wrap (IntKind.u64.wrap (l.getD k v_).n)⟩,⟨IntKind.u32.wrap (Int.fdiv (IntKind.u64.wrap (l.getD k v_).n) (2^(Nat.min 32 64)))⟩]:List U32)).length bk) (ae 2 V ?_));refine wU 1 [] 14 15 [5] [(5,(iI ((k:Int)+1)))] (vi (n:=(k:Int)+1)) V fun _=>?_
   refine bb _ _ _ ?_ ⟨(o++([⟨x⟩]:List U32))++([⟨IntKind.u32.wrap (IntKind.u64.wrap (l.getD k v_).n)⟩,⟨IntKind.u32.wrap (Int.fdiv (IntKind.u64.wrap (l.getD k v_).n) (2^(Nat.min 32 64)))⟩]:List U32),k+1,a5,bk,co,_,(fT (fT (Z) aa) ag),(HS.sub b6 (a01 _ _)),b2,f_,V,(by refine Eq.trans ?_ (nM (k:=k) M);rw[←h1,←re_eq al];unfold reW;first|(rw[if_pos X,hx,a0l];rfl)|(rw[if_neg X,hx])),M⟩;omega
  refine wU 1 [] 14 15 [5] [(5,(iI ((k:Int)+1)))] (vi (n:=(k:Int)+1)) V fun _=>?_
  refine bb _ _ _ ?_ ⟨o++([⟨x⟩]:List U32),k+1,aq,a2,ci,_,(fT (fT (Z) aa) ag),(HS.sub a_ (a01 _ _)),aw,f_,V,(by refine Eq.trans ?_ (nM (k:=k) M);rw[←h1,←re_eq al];unfold reW;first|(rw[if_pos X,hx,a0l];rfl)|(rw[if_neg X,hx])),M⟩;omega
 refine wT 1 [] 2 3 [81] [(2,(S_ A o E)),(3,(iI 0))] V fun _=>?_
 obtain⟨dv,bt,b7,b3,ds⟩:=OS.frz N ap (i:=0) V;refine ak ⟨.inr V,_,V,A,E,o,0,_,(fT (Z) bt),(HS.forget b7),V,b3,(by rw[h1,a0h M]),m_⟩
end ed
open ed
namespace ec
variable (ex:FuncId) {F:Fz} {H:Heap} {R:List Fp}
structure EmW where
 s:EmS
 la:Option Addr
 lk:Nat
 lp:Fp
 pa:Option Addr
 pk:Nat
 pp:Fp
 ja:Option Addr
 jk:Nat
 jp:Fp
 lo:OS (fun _=>none) (sL la s.l.length lk) s.l lp
 po:OS (fun _=>none) (sL pa s.pl.length pk) s.pl pp
 jo:OS (fun _=>none) (sL ja s.js.length jk) s.js jp
 gs:in64 s.sz
def psM(b:Nat)(w:EmW):Fp:=(([(b,.cells [sL w.la w.s.l.length w.lk,sL w.pa w.s.pl.length w.pk,iI w.s.sz,sL w.ja w.s.js.length w.jk] none false)]++w.lp)++w.pp)++w.jp
theorem put_c{y ai al}(l:List InsT)(w:EmW)(hs:HS (.of H ((psM y w).map Prod.fst)) F H [(psM y w)] R)(hl:Sr F ai l al)(hT:TB 37 tabC F)(hO:EmO ⟨w.s.l,w.s.pl,w.s.sz,[]⟩)(hb:w.s.l.length+l.length<=200000000):kKt ex 70 [(pT y 0),(S_ ai l al)] H fun v H'=> ∃(w':EmW),∃F',F.le F'/\HS (.of H ((psM y w).map Prod.fst)) F' H' [(psM y w')] R/\v= .tuple #[]/\(w'.s=eW w.s l):=by
 refine aB Tryz.func70 V V (am 1 V ?_);have c5:OZ F w.la w.s.l w.lk w.lp:=w.lo.lowI;have c6:OZ F w.pa w.s.pl w.pk w.pp:=w.po.lowI;let a5:Value:=sL w.ja w.s.js.length w.jk;have ax:OS F a5 w.s.js w.jp:=w.jo.lowI;have g7:=w.gs;have dk:HS _ _ _ [(fP y [(S_ w.la w.s.l w.lk),(S_ w.pa w.s.pl w.pk),w.s.sz,a5]),w.jp,w.pp,w.lp] _:=(HS.cut2 (HS.cut2 (HS.cut2 hs (q:=0) V) (q:=0) V) (q:=0) V)
 refine wT 2 [] 8 10 [] [(8,(S_ ai l al)),(9,(l.length:Int)),(10,(iI 0))] V fun _=>aj (fun(mm:Nat) f H'=> ∃(ll:List InsT) (pp:List Int) (sz:Int) (k:Nat),∃aa E,∃(T:Nat),∃ag N,∃(U:Nat),∃F',F.le F'/\HS (Base.of H ((psM y w).map Prod.fst)) F' H' [(fP y [(S_ E ll T),(S_ N pp U),sz,a5]),w.jp,ag,aa] R/\OZ F' E ll T aa/\OZ F' N pp U ag/\aA f [(0,(pT y 0)),(8,(S_ ai l al)),(9,(l.length:Int)),(10,(k:Int))]/\mm=l.length-k/\((⟨ll,pp,sz,w.s.js⟩:EmS)=eW w.s (l.take k))/\(k<=l.length)/\(in64 sz)) _ ⟨w.s.l,w.s.pl,w.s.sz,0,w.lp,w.la,w.lk,w.pp,w.pa,w.pk,_,fR,dk,c5,c6,f_,V,m_,M,M⟩ ?_
 rintro ha f6 H6 ⟨ll,pp,sz,k,aa,E,T,ag,N,U,F6,an,aw,a_,Z,a9,rfl,h2,hk,hsz⟩ dl;refine au _ a9 (fun _=>?_);clear a9;replace hT:=hT.mono an;replace hl:=hl.mono an;replace ax:=ax.mono an;have av:=hO.pt (l.take k);rw[put_j0,←h2]at av;have c7:=av.pl;have c9:=av.sz0;have dd:=av.sz1;have fz:ll.length=w.s.l.length+(l.take k).length:=by have:=congrArg (fun s=>s.l.length) h2;rwa [bT]at this
 rw[a0o,a1S hk]at fz;dsimp only at c7 c9 dd;refine am 1 V (wT 2 [] 11 11 [] [(11,(decide ((k:Int)<(l.length:Int))))] V fun _=>zd 4 3 (fun c8=>?_) fun c8=>?_)
 ·let A:=gD l k;have hP:0<=(aI A.op).w/\(aI A.op).w<=3:=jA A;refine ab ?_;obtain⟨g6,bb⟩:=Sv.view (SR.sv hl aw);obtain⟨d1,d2,em,et,ez⟩:=InsT.fx (bb k);let bk:Value:=(aG [(A.op),(A.a),(A.b),(A.c),(A.n)])
  refine bK 2 0 12 13 [] [(13,bk)] (Ha_ (Sv.ix (j:=(k:Int)) (SR.sv hl aw)) (Hl_ 1 (qn 86 0 5 (InsT.vw (bb k)) V V V V) Hn_)) K_ V fun _=>zn aw V fun g4 f4 b2=>sgo 1 3 1 0 [] [] (Hr_ 3 4 Hn_) b2 V V fun fd f5 aq=>ae 2 V (ab (aS 2 0 15 16 [] [(16,(A.op))] (Hr_ 1 4 Hn_) aq V V fun _=>?_))
  refine zc (m1.gZ ex (A.op) (HS.call aq) M hT) ?_;rintro _ f7 ⟨hh,he,f3,ap,ar,rfl,cc,ch,rfl,rfl⟩;replace ar:=HS.back aq V ar;replace a_:=a_.mono ap;replace Z:=Z.mono ap;refine bK 3 3 18 19 [14] [(18,(aG [(tX (aI (A.op)).name.b),(aI (A.op)).f,(.bool (aI (A.op)).ra),(.bool (aI (A.op)).wa),(.bool (aI (A.op)).rb),(.bool (aI (A.op)).mt),(aI (A.op)).w])),(19,(infO (A.op)))] Hn_ K_ V fun _=>zn ar V fun g5 f8 b3=>sgo 2 7 1 0 [7] [] (Hr_ 7 5 Hn_) b3 V V fun fi f9 ay=>ae 2 V (aC V (cN 6 20 25 [] [(20,(pT y 0)),(24,(S_ E ll T)),(25,bk)] (Hr_ 4 0 (Hr_ 5 4 Hn_)) ay V V fun _=>?_))
  refine zld [A] ay V (RL.cs ⟨V,M,M,M,M,M⟩ RL.nl) V fun g2 g8 hf e1 bl a1=>zad 3 a_ a1 (OS.sv bl a1 (i:=6) V) V V V M (kb V) fun ci dn dt e2 bt b4=>sdo 3 28 29 [] [] (Hr_ 10 0 Hn_) b4 V V fun fj go a2=>aW 2 V (aC V (cN 9 30 38 [] [(30,(pT y 0)),(34,(S_ N pp U)),(38,sz)] (Hr_ 4 0 (Hr_ 8 0 Hn_)) a2 V V fun _=>?_))
  refine zld [sz] a2 V (RL.cs ⟨V,M⟩ RL.nl) V fun g3 g9 hg e3 bz a3=>zad 2 Z a3 (OS.sv bz a3 (i:=7) V) V V V M (kb V) fun co ds dv e4 b1 b5=>sdo 3 41 42 [] [] (Hr_ 13 0 Hn_) b5 V V fun f0 gt b6=>aW 1 V (sdr 2 43 51 [] [] (Hr_ 3 0 (Hr_ 5 5 (Ha_ (vi (n:=sz+(aI (A.op)).w)) (Hr_ 9 0 Hn_)))) b6 V V V fun f1 g1 b7=>wU 1 [] 10 10 [52] [(10,(iI ((k:Int)+1)))] (vi (n:=(k:Int)+1)) V fun _=>?_)
  refine dl _ _ _ ?_ ⟨ll++[A],pp++[sz],sz+(aI (A.op)).w,k+1,dt,ci,dn,dv,co,ds,_,(fT (an) ap),(HS.sub b7 (a01 _ _)),bt,b1,f_,V,(put_step h2 M),M,M⟩;omega
 obtain⟨b9,a8,b8⟩:=lG (P:=fun w9=>HS (Base.of H ((psM y w).map Prod.fst)) F6 H6 [(psM y w9),[],[],[]] R) (⟨⟨ll,pp,sz,w.s.js⟩,E,T,aa,N,U,ag,w.ja,w.jk,w.jp,OS.lowI (a_),OS.lowI (Z),OS.lowI (ax),M⟩:EmW) (HS.join2 (HS.join2 (HS.join2 aw (q:=0) (i:=3) e_ V V) (q:=0) (i:=2) e_ V V) (q:=0) (i:=1) e_ V V);have a4:=congrArg (·.s) a8;refine aM ⟨.inl V,_,V,b9,_,(an),(HS.first b8),V,(by simp only[a4];exact h2.trans (by rw[a0h M]))⟩
theorem pjmp_c{y}(i:InsT)(b:Int)(w:EmW)(hs:HS (.of H ((psM y w).map Prod.fst)) F H [(psM y w)] R)(b5:in64 i.op)(b6:in64 i.a)(b7:in64 i.b)(b8:in64 i.c)(b9:in64 i.n)(hb:in64 b)(hT:TB 37 tabC F)(hO:EmO w.s)(hb:w.s.l.length<=199999998):kKt ex 123 [(pT y 0),(aG [i.op,i.a,i.b,i.c,i.n]),b] H fun v H'=> ∃(w':EmW),∃F',F.le F'/\HS (.of H ((psM y w).map Prod.fst)) F' H' [(psM y w')] R/\v= .tuple #[]/\(w'.s=mF w.s i b):=by
 have dk:=hO.js;have dl:=hO.pl;have dn:=hO.sz0;have ds:=hO.sz1;refine aB Tryz.func123 V V (am 1 V (ab (aT (aN hs V V) V V ?_)));rintro _ H2 _ ⟨b1,rfl,bl,_⟩;refine ae 2 V ?_;have a7:OZ F w.la w.s.l w.lk w.lp:=w.lo.lowI;have a9:OZ F w.pa w.s.pl w.pk w.pp:=w.po.lowI;let a_:Value:=sL w.ja w.s.js.length w.jk;have bb:OS F a_ w.s.js w.jp:=w.jo.lowI;have dd:=w.gs;let an:Fp:=(fP b1 [i.op,i.a,i.b,i.c,i.n])
 have aa:HS _ _ _ [(fP y [(S_ w.la w.s.l w.lk),(S_ w.pa w.s.pl w.pk),w.s.sz,a_]),an,w.jp,w.pp,w.lp] _:=(HS.cut2 (HS.cut2 (HS.cut2 bl (q:=0) V) (q:=0) V) (q:=0) V)
 refine aC V (cN 12 6 17 [] [(6,(pT y 0)),(10,a_),(17,(aG [(w.s.l.length:Int),b]))] (Hr_ 4 0 (Hr_ 8 0 Hn_)) aa V V fun _=>zld ([(⟨(w.s.l.length:Int),b⟩:JmpT)]:List JmpT) aa V (RL.cs ⟨V,M,M⟩ RL.nl) V fun a8 k8 p8 c8 bk ag=>zad 2 bb ag (OS.sv bk ag (i:=5) V) V V V M (kb V) fun a5 bt bz b2 ar ax=>sdo 3 20 21 [] [] (Hr_ 16 0 Hn_) ax V V fun b4 a4 ay=>aW 1 V ?_);obtain⟨a3,Z,T⟩:=lG (P:=fun w9=>HS (Base.of H ((psM y w).map Prod.fst)) F a4 [(psM y w9),an,[],[],[],p8] R) (⟨⟨w.s.l,w.s.pl,w.s.sz,w.s.js++([(⟨(w.s.l.length:Int),b⟩:JmpT)]:List JmpT)⟩,w.la,w.lk,w.lp,w.pa,w.pk,w.pp,a5,bt,bz,OS.lowI (a7),OS.lowI (a9),OS.lowI (ar),M⟩:EmW) (HS.join2 (HS.join2 (HS.join2 ay (q:=0) (i:=4) e_ V V) (q:=0) (i:=3) e_ V V) (q:=0) (i:=2) e_ V V);have A:=congrArg (·.s) Z;refine ab (aS 2 0 22 23 [] [(22,(pT y 0)),(23,(aG [i.op,i.a,i.b,i.c,i.n]))] (Hr_ 1 1 Hn_) T V V fun _=>zlo [i] T V (RL.cs ⟨V,M,M,M,M,M⟩ RL.nl) V fun c9 dt dv c6 av a1=>?_);obtain⟨c5,N,U,aw,cc⟩:=OS.frz av a1 (i:=6) V;replace hT:=hT.mono N;refine zc (put_c ex [i] a3 (g_ U V) aw hT (by(simp only[A];exact hO.j0)) (by(simp only[A];simp only[a0j];omega))) ?_;rintro _ c7 ⟨a2,co,aq,E,rfl,ap⟩;replace E:=U.bO E;refine ae 0 V (aM ⟨.inl V,_,V,a2,_,(fT (N) aq),(HS.first E),V,(by simp only[ap,A];rfl)⟩)
theorem trm_c{y ay a7}(b:BlkT){ax a5 aw a4}(a:AllT)(nx:Int)(w:EmW)(hs:HS (.of H ((psM y w).map Prod.fst)) F H [(psM y w)] R)(jb:Sr F ay b.v a7)(jq:in64 b.f)(jw:in64 b.r)(j1:in64 b.t)(j2:in64 b.e)(a3:Sr F aw a.l a4)(i4:Sr F ax a.p a5)(i5:in64 a.k)(pg:in64 nx)(hT:TB 37 tabC F)(hO:EmO w.s)(hb:w.s.l.length<=199999000)(hr:b.f=2\/b.f=3->0<=b.r/\b.r<(a.l.length:Int)):kKt ex 72 [(pT y 0),(aG [(S_ ay b.v a7),b.f,b.r,b.t,b.e]),(aG [(S_ aw a.l a4),(S_ ax a.p a5),a.k]),nx] H fun v H'=> ∃(w':EmW),∃F',F.le F'/\HS (.of H ((psM y w).map Prod.fst)) F' H' [(psM y w')] R/\v= .tuple #[]/\(w'.s=fu w.s b a.l nx):=by
 refine aB Tryz.func72 V V (am 1 V (ab (aT (aN hs V V) V V ?_)));rintro _ H2 _ ⟨b1,rfl,ii,_⟩;refine aT (aN ii V V) V V ?_;rintro _ H4 _ ⟨b3,rfl,N,_⟩;refine ae 2 V (aU 3 10 11 [] [(11,b.f)] (Hr_ 1 1 Hn_) N V V fun _=>wT 1 [] 18 19 [] [(18,(b.f==1))] V fun _=>zI 1 1 (fun c7=>?_) fun c7=>?_)
 ·refine aU 1 20 23 [] [(23,(b.t !=nx))] (Hr_ 1 1 Hn_) N V V fun _=>zI 0 1 (fun c9=>?_) fun c9=>?_
  ·refine ab (aS 4 0 24 27 [] [(24,(pT y 0)),(25,(aG [(iI 5),(iI 0),(iI 0),(iI 0),(iI 0)])),(27,b.t)] (Hr_ 3 1 Hn_) N V V fun _=>zc (pjmp_c ex (⟨5,0,0,0,0⟩:InsT) b.t w (g_ N V) M M M M M M hT M M) ?_);rintro _ k9 ⟨ht,kk,f9,bz,rfl,f3⟩;replace bz:=N.bO bz;refine ae 1 V (aM ⟨.inl V,_,V,ht,_,(f9),(HS.first bz),V,(by(try simp only[f3]);(try rw[h3,ar]);(try rw[aq]);unfold fu;(try unfold lZ);(repeat (first|rw[if_pos M]|rw[if_neg M]));(try rfl))⟩)
  refine aM ⟨.inl V,_,V,w,_,fR,(HS.first N),V,(by(try simp only[true_and]);(try rw[h3,ar]);(try rw[aq]);unfold fu;(try unfold lZ);(repeat (first|rw[if_pos M]|rw[if_neg M]));(try rfl))⟩
 refine wT 1 [] 29 30 [] [(29,(b.f==2))] V fun _=>zI 1 1 (fun h4=>?_) fun h4=>?_
 ·refine ab ?_;obtain⟨iz,e5⟩:=Sv.view (SR.sv a3 N);have ik:=LocT.fx (e5 b.r.toNat);let E:=gD a.l b.r.toNat;refine aS 6 0 31 36 [] [(36,(aG [(E.inS),(E.x)]))] (Hr_ 1 2 (Hr_ 3 1 (Ha_ (Sv.ix (j:=b.r) (SR.sv a3 N)) (Hl_ 5 (qn 39 0 2 (LocT.vw (e5 b.r.toNat)) V V V V) Hn_)))) N V V fun _=>zn N V fun h1 lf hh=>sgo 1 7 1 0 [] [] (Hr_ 7 3 Hn_) hh V V fun i2 ll ap=>ae 2 V (aU 3 37 38 [9] [(9,(E.x))] (Hr_ 1 3 Hn_) ap V V fun _=>aU 1 39 40 [] [(40,(E.inS))] (Hr_ 1 3 Hn_) ap V V fun _=>?_)
  refine ba (fun f H'=> ∃(r:Int) (A:EmW),∃F',F.le F'/\HS (Base.of H ((psM y w).map Prod.fst)) F' H' [(psM y A),(fP b1 [(S_ ay b.v a7),b.f,b.r,b.t,b.e]),(fP b3 [(S_ aw a.l a4),(S_ ax a.p a5),a.k]),(fP h1 [(E.inS),(E.x)])] R/\aA f [(0,(pT y 0)),(3,nx),(5,(pT b1 0)),(9,r)]/\(r=eX E.inS E.x 5)/\(in64 r)/\(EmO A.s)/\(A.s=eW w.s (fetS E))) (fun fd=>?_) ?_
  ·refine zi 1 0 (fun a1=>?_) fun a1=>?_
   ·have h5:=a1;try simp only[BS]at h5
    have an:E.inS=true:=a1;refine wT 1 [] 1 0 [9] [(9,(iI 5))] V fun _=>ab (aS 3 0 41 43 [] [(41,(pT y 0)),(43,(E.x))] (Hr_ 2 3 Hn_) ap V V fun _=>zc (xa.iN ex (5) (E.x) (HS.call ap) M M hT) ?_)
    rintro _ lv ⟨oL,kn,dd,b2,rfl,hE,hF,hG,hH,hI,rfl⟩;replace b2:=HS.back ap V b2;refine zlo ([(⟨36,(5:Int),0,0,(E.x)⟩:InsT)]:List InsT) b2 V (RL.cs ⟨V,M,M,M,M,M⟩ RL.nl) V fun n7 oy oG lz g5 hj=>?_
    obtain⟨kp,dk,ez,ha,kc⟩:=OS.frz g5 hj (i:=4) V;replace hT:=(hT.mono dd).mono dk;refine zc (put_c ex ([(⟨36,(5:Int),0,0,(E.x)⟩:InsT)]:List InsT) w (g_ ez V) ha hT (EmO.j0 X) (by(simp only[true_and,bT,df,a02,a0j,a07,a04];omega))) ?_;rintro _ l0 ⟨hu,ko,go,b4,rfl,c8⟩;replace b4:=ez.bO b4;refine ae 0 V ?_;exact fd _ _ ⟨5,hu,_,(fT (fT (dd) dk) go),(HS.sub b4 (a01 _ _)),f_,(by unfold eX;first|(rw[if_pos an])|(rw[if_neg an])),M,(by(simp only[c8];exact hO.pt _)),(by unfold fetS;first|(rw[if_pos an];simp only[c8])|(rw[if_neg an];rfl))⟩
   have an: ¬E.inS=true:=by(have h9:=a1;rw[show E.inS=false from h9];decide)
   exact fd _ _ ⟨E.x,w,_,fR,ap,f_,(by unfold eX;first|(rw[if_pos an])|(rw[if_neg an])),M,X,(by unfold fetS;first|(rw[if_pos an];simp only[true_and])|(rw[if_neg an];rfl))⟩
  skip;rintro oo lr ⟨r,A,kl,a2,T,et,ar,rr,ow,h3⟩;refine au _ et (fun _=>?_);clear et;replace hT:=hT.mono a2;have ox:A.s.l.length<=w.s.l.length+1:=by rw[h3,bT];exact Nat.add_le_add_left kv _
  refine am 2 V (wT 3 [] 47 47 [] [(47,nx)] V fun _=>aU 1 59 62 [] [(59,(nx==b.e))] (Hr_ 1 1 Hn_) T V V fun _=>zI 0 1 (fun h6=>?_) fun h6=>?_)
  ·refine ab (aS 5 0 63 67 [] [(63,(pT y 0)),(65,(aG [(iI 8),r,(iI 0),(iI 0),(iI 0)])),(67,b.t)] (Hr_ 4 1 Hn_) T V V fun _=>zc (pjmp_c ex (⟨8,r,0,0,0⟩:InsT) b.t A (g_ T V) M M M M M M hT M M) ?_);rintro _ l1 ⟨hv,kr,gt,b5,rfl,f4⟩;replace b5:=T.bO b5;refine ae 2 V (aM ⟨.inl V,_,V,hv,_,(fT (a2) gt),(HS.first b5),V,(by(try simp only[f4]);(try rw[h3,ar]);(try rw[aq]);unfold fu;(try unfold lZ);(repeat (first|rw[if_pos M]|rw[if_neg M]));(try rfl))⟩)
  refine aU 1 69 72 [] [(69,(nx==b.t))] (Hr_ 1 1 Hn_) T V V fun _=>zI 0 1 (fun h7=>?_) fun h7=>?_
  ·refine ab (aS 5 0 73 77 [] [(73,(pT y 0)),(75,(aG [(iI 7),r,(iI 0),(iI 0),(iI 0)])),(77,b.e)] (Hr_ 4 1 Hn_) T V V fun _=>zc (pjmp_c ex (⟨7,r,0,0,0⟩:InsT) b.e A (g_ T V) M M M M M M hT M M) ?_);rintro _ l2 ⟨hw,kx,g1,b6,rfl,f5⟩;replace b6:=T.bO b6;refine ae 2 V (aM ⟨.inl V,_,V,hw,_,(fT (a2) g1),(HS.first b6),V,(by(try simp only[f5]);(try rw[h3,ar]);(try rw[aq]);unfold fu;(try unfold lZ);(repeat (first|rw[if_pos M]|rw[if_neg M]));(try rfl))⟩)
  refine ab (aS 5 0 48 52 [] [(48,(pT y 0)),(50,(aG [(iI 8),r,(iI 0),(iI 0),(iI 0)])),(52,b.t)] (Hr_ 4 1 Hn_) T V V fun _=>zc (pjmp_c ex (⟨8,r,0,0,0⟩:InsT) b.t A (g_ T V) M M M M M M hT M M) ?_);rintro _ l3 ⟨hz,ky,dl,av,rfl,bb⟩;replace av:=T.bO av;replace hT:=hT.mono dl;refine ae 1 V (ab (aS 4 0 54 57 [] [(54,(pT y 0)),(55,(aG [(iI 5),(iI 0),(iI 0),(iI 0),(iI 0)])),(57,b.e)] (Hr_ 3 1 Hn_) av V V fun _=>zc (pjmp_c ex (⟨5,0,0,0,0⟩:InsT) b.e hz (g_ av V) M M M M M M hT (by(simp only[bb];first|exact EmO.jm X _ _|exact EmO.pt _ X)) (by(simp only[bb,bT,df,a02,a0j,a07,a04];omega))) ?_));rintro _ l4 ⟨hA,kz,g2,b7,rfl,f6⟩;replace b7:=av.bO b7;refine ae 2 V (aM ⟨.inl V,_,V,hA,_,(fT (fT (a2) dl) g2),(HS.first b7),V,(by(try simp only[f6,bb]);(try rw[h3,ar]);(try rw[aq]);unfold fu;(try unfold lZ);(repeat (first|rw[if_pos M]|rw[if_neg M]));(try rfl))⟩)
 refine wT 1 [] 79 80 [] [(79,(b.f==3))] V fun _=>zI 1 0 (fun h8=>?_) fun h8=>?_
 ·have pf:=fH (to:=0) (b:=(gD a.l b.r.toNat).inS) (x:=(gD a.l b.r.toNat).x);refine ab ?_;obtain⟨i1,e6⟩:=Sv.view (SR.sv a3 N);have il:=LocT.fx (e6 b.r.toNat);refine aS 7 0 81 87 [] [(81,(pT y 0)),(87,(aG [(.bool (gD a.l b.r.toNat).inS),(gD a.l b.r.toNat).x]))] (Hr_ 2 2 (Hr_ 4 1 (Ha_ (Sv.ix (j:=b.r) (SR.sv a3 N)) (Hl_ 6 (qn 39 0 2 (LocT.vw (e6 b.r.toNat)) V V V V) Hn_)))) N V V fun _=>?_
  have hk:=HS.snoc N;have U:OS F N_ ([]:List InsT) []:=OS.nil;refine zc (R:=fun v H'=> ∃(o3:List InsT),∃Z,∃(aa:Nat),∃ag F',F.le F'/\HS (Base.of H ((psM y w).map Prod.fst)) F' H' [(psM y w),(fP b1 [(S_ ay b.v a7),b.f,b.r,b.t,b.e]),(fP b3 [(S_ aw a.l a4),(S_ ax a.p a5),a.k]),ag] R/\OZ F' Z o3 aa ag/\v=(S_ Z o3 aa)/\(o3=([]:List InsT)++eQ 0 (gD a.l b.r.toNat).inS (gD a.l b.r.toNat).x)) ?_ ?_
  ·refine aB Tryz.func89 V V (am 1 V (ab (aT (aN hk V V) V V ?_)));rintro _ mk _ ⟨ol,rfl,a_,_⟩;refine za N_ (ae 4 V (aU 1 7 9 [] [(7,(.bool (gD a.l b.r.toNat).inS))] (Hr_ 1 4 Hn_) a_ V V fun _=>zI 1 1 (fun ib=>?_) fun ib=>?_))
   ·refine ab (aS 4 0 10 13 [] [(10,N_),(11,(iI 0)),(13,(gD a.l b.r.toNat).x)] (Hr_ 3 4 Hn_) a_ V V fun _=>zc (xa.iN ex (0) (gD a.l b.r.toNat).x (HS.call a_) M M hT) ?_);rintro _ mm ⟨oM,hX,ds,b8,rfl,hJ,hK,hL,hM,hP,rfl⟩;replace b8:=HS.back a_ V b8;replace U:=U.mono ds;refine zlo ([(⟨36,(0:Int),0,0,(gD a.l b.r.toNat).x⟩:InsT)]:List InsT) b8 V (RL.cs ⟨V,M,M,M,M,M⟩ RL.nl) V fun oa oz oH mx g6 e0=>zao 3 U e0 (OS.sv g6 e0 (i:=5) V) V V V M fun c5 fi f0 mI bl hm=>?_
    have bl:OS hX (sL c5 ([(⟨36,(0:Int),0,0,(gD a.l b.r.toNat).x⟩:InsT)]:List InsT).length fi) ([(⟨36,(0:Int),0,0,(gD a.l b.r.toNat).x⟩:InsT)]:List InsT) f0:=bl;refine za (sL c5 ([(⟨36,(0:Int),0,0,(gD a.l b.r.toNat).x⟩:InsT)]:List InsT).length fi) (ae 1 V (ak ⟨.inr V,_,V,([(⟨36,(0:Int),0,0,(gD a.l b.r.toNat).x⟩:InsT)]:List InsT),c5,fi,f0,_,(ds),(HS.sub hm (a01 _ _)),bl,V,(fet1 (l:=([]:List InsT)) X)⟩))
   refine aU 1 17 21 [] [(17,((gD a.l b.r.toNat).x !=0))] (Hr_ 1 4 Hn_) a_ V V fun _=>zI 1 3 (fun ih=>?_) fun ih=>?_
   ·refine ab (aS 4 0 22 25 [] [(22,N_),(23,(iI 0)),(25,(gD a.l b.r.toNat).x)] (Hr_ 3 4 Hn_) a_ V V fun _=>zc (xa.move_c ex (0) (gD a.l b.r.toNat).x (HS.call a_) M M hT) ?_);rintro _ m0 ⟨oO,hY,dt,b9,rfl,hQ,hR,hS,hV,hW,rfl⟩;replace b9:=HS.back a_ V b9;replace U:=U.mono dt;refine zlo ([(⟨10,(0:Int),(gD a.l b.r.toNat).x,0,0⟩:InsT)]:List InsT) b9 V (RL.cs ⟨V,M,M,M,M,M⟩ RL.nl) V fun ob oD oI nm g7 e1=>zao 3 U e1 (OS.sv g7 e1 (i:=5) V) V V V M fun c6 fj f1 n1 bt hn=>?_
    have bt:OS hY (sL c6 ([(⟨10,(0:Int),(gD a.l b.r.toNat).x,0,0⟩:InsT)]:List InsT).length fj) ([(⟨10,(0:Int),(gD a.l b.r.toNat).x,0,0⟩:InsT)]:List InsT) f1:=bt;refine za (sL c6 ([(⟨10,(0:Int),(gD a.l b.r.toNat).x,0,0⟩:InsT)]:List InsT).length fj) (ae 1 V (ak ⟨.inr V,_,V,([(⟨10,(0:Int),(gD a.l b.r.toNat).x,0,0⟩:InsT)]:List InsT),c6,fj,f1,_,(dt),(HS.sub hn (a01 _ _)),bt,V,(fet2 (l:=([]:List InsT)) X X)⟩))
   refine wT 1 [] 6 6 [29] [(6,N_)] V fun _=>ak ⟨.inr V,_,V,([]:List InsT),none,0,[],_,fR,(HS.sub a_ (a01 _ _)),U,V,(fet0 (l:=([]:List InsT)) X M)⟩
  rintro _ l9 ⟨o3,Z,aa,ag,k0,dn,hl,a9,rfl,aq⟩;have ka:o3.length<=1:=by rw[aq];simp only[a02,a07];omega
  obtain⟨k4,d1,e2,he,kd⟩:=OS.frz a9 hl (i:=3) V;replace hT:=(hT.mono dn).mono d1;refine zc (put_c ex o3 w (g_ e2 V) he hT (EmO.j0 X) M) ?_;rintro _ n2 ⟨hB,k3,dv,cc,rfl,bk⟩;replace cc:=e2.bO cc;refine ae 1 V (ab (wTo 2 0 [] 90 91 [] [(90,(pT y 0)),(91,(aG [(iI 2),(iI 0),(iI 0),(iI 0),(iI 0)]))] V fun _=>zlo ([(⟨2,0,0,0,0⟩:InsT)]:List InsT) cc V (RL.cs ⟨V,M,M,M,M,M⟩ RL.nl) V fun oc oE oJ n3 g8 hp=>?_));obtain⟨k6,d2,e3,hf,kg⟩:=OS.frz g8 hp (i:=4) V;replace hT:=(hT.mono dv).mono d2;refine zc (put_c ex ([(⟨2,0,0,0,0⟩:InsT)]:List InsT) hB (g_ e3 V) hf hT (by(simp only[bk];first|exact(EmO.jm X _ _).j0|exact(EmO.pt _ X).j0)) (by(simp only[bk,bT,df,a02,a0j,a07,a04];omega))) ?_;rintro _ n4 ⟨hC,k5,g3,ch,rfl,f7⟩;replace ch:=e3.bO ch;refine ae 1 V (aM ⟨.inl V,_,V,hC,_,(fT (fT (fT (fT (dn) d1) dv) d2) g3),(HS.first ch),V,(by(try simp only[f7,bk]);(try rw[h3,ar]);(try rw[aq]);unfold fu;(try unfold lZ);(repeat (first|rw[if_pos M]|rw[if_neg M]));(try rfl))⟩)
 refine ab (aS 4 0 12 15 [] [(12,(pT y 0)),(15,(aG [(iI 4),(iI 0),(iI 0),(iI 0),b.t]))] (Hr_ 2 1 Hn_) N V V fun _=>zlo ([(⟨4,0,0,0,b.t⟩:InsT)]:List InsT) N V (RL.cs ⟨V,M,M,M,M,M⟩ RL.nl) V fun oh oF oK n5 g9 hq=>?_);obtain⟨k8,em,e4,hg,ki⟩:=OS.frz g9 hq (i:=3) V;replace hT:=hT.mono em;refine zc (put_c ex ([(⟨4,0,0,0,b.t⟩:InsT)]:List InsT) w (g_ e4 V) hg hT (EmO.j0 X) (by(simp only[true_and,bT,df,a02,a0j,a07,a04];omega))) ?_;rintro _ n6 ⟨hD,k7,g4,ci,rfl,f8⟩;replace ci:=e4.bO ci;refine ae 1 V (aM ⟨.inl V,_,V,hD,_,(fT (em) g4),(HS.first ci),V,(by(try simp only[f8]);(try rw[h3,ar]);(try rw[aq]);unfold fu;(try unfold lZ);(repeat (first|rw[if_pos M]|rw[if_neg M]));(try rfl))⟩)
theorem fun_c{y a7 bt}(c:VFnT){b4 ci b2 ch}(a:AllT)(w:EmW)(hs:HS (.of H ((psM y w).map Prod.fst)) F H [(psM y w)] R)(oQ:in64 c.m)(oR:in64 c.r)(bb:Sr F a7 c.u bt)(av:Sr F b2 a.l ch)(aw:Sr F b4 a.p ci)(oP:in64 a.k)(hT:TB 37 tabC F)(hO:EmO w.s)(hb:w.s.l.length<=100000000)(hv:cb c=true)(hl:(a.l.length:Int)=c.r)(no: ∀j,(c.u.getD j v_).v.length<=1000):kKt ex 36 [(pT y 0),(aG [c.m,c.r,(sL a7 c.u.length bt)]),(aG [(sL b2 a.l.length ch),(sL b4 a.p.length ci),a.k])] H fun v H'=> ∃ll,∃(lx:Nat) (st:List Int) (w':EmW),∃F',F.le F'/\HS (.of H ((psM y w).map Prod.fst)) F' H' [(psM y w')] R/\v=sL ll st.length lx/\Sr F' ll st lx/\st=(gg c a.l w.s).2/\(w'.s=(gg c a.l w.s).1)/\(EmO w'.s)/\(w'.s.l.length<=w.s.l.length+11003006):=by
 have vF:=e9 hv;have q4:=vF.nb;have q8:=vF.r;have q5:=vF.m;refine aB Tryz.func36 V V (am 1 V (ab (aT (aN hs V V) V V ?_)));rintro _ H2 _ ⟨b1,rfl,l2,_⟩;refine aT (aN l2 V V) V V ?_;rintro _ H4 _ ⟨b3,rfl,l3,_⟩;refine za N_ (ae 2 V ?_);have l0:OZ F w.la w.s.l w.lk w.lp:=w.lo.lowI;have l1:OZ F w.pa w.s.pl w.pk w.pp:=w.po.lowI;have pP:OZ F w.ja w.s.js w.jk w.jp:=w.jo.lowI;have pM:=w.gs;let a1:Fp:=(fP b1 [c.m,c.r,(sL a7 c.u.length bt)])
 let a2:Fp:=(fP b3 [(sL b2 a.l.length ch),(sL b4 a.p.length ci),a.k])
 have l4:HS _ _ _ [(fP y [(sL w.la w.s.l.length w.lk),(sL w.pa w.s.pl.length w.pk),w.s.sz,(sL w.ja w.s.js.length w.jk)]),a1,a2,w.jp,w.pp,w.lp] _:=(HS.cut2 (HS.cut2 (HS.cut2 l3 (q:=0) V) (q:=0) V) (q:=0) V)
 refine sgr 3 15 17 [] [] (Hr_ 3 0 Hn_) l4 V V fun pL H9 l9=>?_
 have h4:=HS.snoc l9;obtain⟨kd,hD,h5⟩:=lG (P:=fun w9=>HS (Base.of H ((psM y w).map Prod.fst)) F H9 [(psM y w9),a1,a2,w.jp,[],[],[]] R) (⟨⟨w.s.l,w.s.pl,w.s.sz,([]:List JmpT)⟩,w.la,w.lk,w.lp,w.pa,w.pk,w.pp,none,0,[],OS.lowI (l0),OS.lowI (l1),OS.lowI ((OS.nil:OS F N_ ([]:List JmpT) [])),M⟩:EmW) (HS.join2 (HS.join2 (HS.join2 h4 (q:=0) (i:=5) e_ V V) (q:=0) (i:=4) e_ V V) (q:=0) (i:=6) e_ V V);have E:=congrArg (·.s) hD;let c6:=(psM y w).map Prod.fst;refine wT 2 [] 1 0 [7] [(7,(iI 0))] V fun _=>aj (fun(mm:Nat) f H'=> ∃(k:Nat) (Z:EmW),∃F',F.le F'/\HS (Base.of H c6) F' H' [(psM y Z),a1,a2,w.jp,[],[],[]] R/\aA f [(0,(pT y 0)),(4,(pT b1 0)),(5,(pT b3 0)),(7,(k:Int))]/\mm=c.m.toNat-k/\(Z.s=parE ⟨w.s.l,w.s.pl,w.s.sz,[]⟩ k)/\(EmO Z.s)/\(Z.s.l.length<=w.s.l.length+k)/\(Z.s.js=[])/\(k<=c.m.toNat)) _ ⟨0,kd,_,fR,h5,f_,V,(by simp only[E];rfl),(by simp only[E];exact⟨hO.pl,a0r _,hO.sz0,hO.sz1⟩),(by simp only[E];omega),(by simp only[E]),M⟩ ?_
 rintro oY pF pd ⟨k,Z,kr,a8,b9,f5,rfl,g1,g2,g3,g4,hk⟩ i5;refine au _ f5 (fun _=>?_);clear f5;replace hT:=hT.mono a8;replace av:=av.mono a8;replace aw:=aw.mono a8;replace bb:=bb.mono a8;refine am 2 V (aU 1 18 21 [] [(21,(decide ((k:Int)<c.m)))] (Hr_ 2 1 Hn_) b9 V V fun _=>zd 3 5 (fun k4=>?_) fun k4=>?_)
 ·refine ab (wTo 3 0 [] 24 26 [] [(24,(pT y 0)),(25,(k:Int)),(26,(k:Int))] V fun _=>zc (xa.kQ ex (k:Int) (k:Int) (HS.call b9) M M hT) ?_);rintro _ pe ⟨pZ,o2,fd,dt,rfl,kk,kl,kn,ko,kp,rfl⟩;replace dt:=HS.back b9 V dt;refine zlo ([(⟨37,(k:Int),0,0,(k:Int)⟩:InsT)]:List InsT) dt V (RL.cs ⟨V,M,M,M,M,M⟩ RL.nl) V fun pB pS pV pf hR h6=>?_
  obtain⟨o4,fi,go,h1,oT⟩:=OS.frz hR h6 (i:=7) V;replace hT:=(hT.mono fd).mono fi;refine zc (put_c ex ([(⟨37,(k:Int),0,0,(k:Int)⟩:InsT)]:List InsT) Z (g_ go V) h1 hT (EmO.j0 X) (by(simp only[E,bT,df,a02,a0j,a07,a04];omega))) ?_;rintro _ pg ⟨j2,o3,hM,dv,rfl,c7⟩;replace dv:=go.bO dv;refine ae 2 V (wU 1 [] 22 23 [7] [(7,(iI ((k:Int)+1)))] (vi (n:=(k:Int)+1)) V fun _=>?_);refine i5 _ _ _ ?_ ⟨k+1,j2,_,(fT (fT (fT (a8) fd) fi) hM),(HS.sub dv (a01 _ _)),f_,V,(by simp only[c7,E,g1];rfl),(by simp only[c7,E];exact EmO.pt _ X),(by simp only[c7,E,bT,a0j];omega),(by simp only[c7,E,put_js];assumption),M⟩;omega
 refine wT 3 [] 1 0 [8] [(8,N_)] V fun _=>aU 2 30 33 [] [(31,(sL a7 c.u.length bt)),(32,(c.u.length:Int)),(33,(iI 0))] (Hr_ 1 1 Hn_) b9 V V fun _=>?_
 have h7:=HS.snoc b9;refine aj (fun(mm:Nat) f H'=> ∃(st:List Int) (k:Nat),∃ag,∃(an:Nat),∃ap,∃(A:EmW),∃F',kr.le F'/\HS (Base.of H c6) F' H' [(psM y A),a1,a2,w.jp,[],[],[],ap] R/\OZ F' ag st an ap/\aA f [(0,(pT y 0)),(5,(pT b3 0)),(8,(sL ag st.length an)),(31,(sL a7 c.u.length bt)),(32,(c.u.length:Int)),(33,(k:Int))]/\mm=c.u.length-k/\(j3 a.l (c.u.drop k) (k:Int) (A.s,st)=(eZ c a.l w.s))/\(EmO A.s)/\(A.s.l.length<=w.s.l.length+6+k *11003)/\(JsO A.s (c.u.length:Int))/\(st.length=k)/\(k<=c.u.length)) _ ⟨([]:List Int),0,none,0,[],Z,_,fR,h7,(OS.nil:OS _ N_ ([]:List Int) []),f_,V,(by rw[g1,show k=c.m.toNat by omega];rfl),X,M,(fun j hj=>by(rw[g4]at hj;cases hj)),m_,M⟩ ?_;rintro oZ pG ph ⟨st,k,ag,an,ap,A,a4,a9,dd,ar,f6,rfl,e1,e2,e3,e4,e5,bk⟩ jb;refine au _ f6 (fun _=>?_);clear f6;replace hT:=hT.mono a9;replace av:=av.mono a9;replace aw:=aw.mono a9;replace bb:=bb.mono a9;obtain⟨wk,ld⟩: ∃x,x=A.s:=⟨_,V⟩
 have q9:wk.l.length=A.s.l.length:=by rw[ld]
 have q2:=no k;have q7:=e2.sz1;have q6:=e2.sz0;refine am 1 V (wT 2 [] 34 34 [] [(34,(decide ((k:Int)<(c.u.length:Int))))] V fun _=>zd 4 6 (fun k5=>?_) fun k5=>?_)
 ·have lr:k<c.u.length:=M
  refine ab ?_;obtain⟨aq,g9⟩:=Sv.view (SR.sv bb dd);obtain⟨n1,n2,n3,n4,a5⟩:=BlkT.fx (g9 k);let hr:=(gD c.u k).f;let ht:=(gD c.u k).r;let hu:=(gD c.u k).t;let hw:=(gD c.u k).e;refine bK 3 0 35 37 [] [(35,(k:Int)),(37,(aG [(sL (cA (aq k) 0) (gD c.u k).v.length (cK (aq k) 0)),hr,ht,hu,hw]))] (Ha_ (Sv.ix (j:=(k:Int)) (SR.sv bb dd)) (Hl_ 2 (qn 82 0 5 (BlkT.vw (g9 k)) V V V V) Hn_)) K_ V fun _=>zn dd V fun hH pi ib=>sgo 2 4 1 0 [9] [(9,(k:Int))] (Hr_ 5 8 Hn_) ib V V fun oI pj ih=>ae 2 V ?_
  have hS:OZ a4 A.la A.s.l A.lk A.lp:=A.lo.lowI;have hV:OZ a4 A.pa A.s.pl A.pk A.pp:=A.po.lowI;have hW:OZ a4 A.ja A.s.js A.jk A.jp:=A.jo.lowI;have oL:=A.gs;let hz:Fp:=(fP hH [(sL (cA (aq k) 0) (c.u.getD k v_).v.length (cK (aq k) 0)),hr,ht,hu,hw])
  have gt:HS _ _ _ [(fP y [(sL A.la A.s.l.length A.lk),(sL A.pa A.s.pl.length A.pk),A.s.sz,(sL A.ja A.s.js.length A.jk)]),a1,a2,w.jp,[],[],[],ap,hz,A.jp,A.pp,A.lp] _:=(HS.cut2 (HS.cut2 (HS.cut2 ih (q:=0) V) (q:=0) V) (q:=0) V)
  refine ab (aS 5 0 38 42 [] [(38,(sL ag st.length an)),(42,A.s.sz)] (Hr_ 4 0 Hn_) gt V V fun _=>zlo [A.s.sz] gt V (RL.cs ⟨V,M⟩ RL.nl) V fun pC pU hJ pm hX g5=>zao 7 ar g5 (OS.sv hX g5 (i:=12) V) V V V M fun e0 hm hn ky b6 ii=>za (sL e0 (st++[A.s.sz]).length hm) (ae 3 V ?_));obtain⟨kg,hE,g6⟩:=lG (P:=fun w9=>HS (Base.of H c6) a4 ky [(psM y w9),a1,a2,w.jp,[],[],[],hn,hz,[],[],[],hJ] R) (⟨⟨A.s.l,A.s.pl,A.s.sz,A.s.js⟩,A.la,A.lk,A.lp,A.pa,A.pk,A.pp,A.ja,A.jk,A.jp,OS.lowI (hS),OS.lowI (hV),OS.lowI (hW),M⟩:EmW) (HS.join2 (HS.join2 (HS.join2 ii (q:=0) (i:=11) e_ V V) (q:=0) (i:=10) e_ V V) (q:=0) (i:=9) e_ V V);have N:=congrArg (·.s) hE;refine aU 2 45 48 [] [(46,(sL (cA (aq k) 0) (c.u.getD k v_).v.length (cK (aq k) 0))),(47,((c.u.getD k v_).v.length:Int)),(48,(iI 0))] (Hr_ 1 8 Hn_) g6 V V fun _=>aj (fun(mm:Nat) f H'=> ∃(i:Nat) (aa:EmW),∃F',a4.le F'/\HS (Base.of H c6) F' H' [(psM y aa),a1,a2,w.jp,[],[],[],hn,hz,[],[],[],hJ] R/\aA f [(0,(pT y 0)),(5,(pT b3 0)),(8,(sL e0 (st++[A.s.sz]).length hm)),(9,(k:Int)),(10,(pT hH 0)),(31,(sL a7 c.u.length bt)),(32,(c.u.length:Int)),(33,(k:Int)),(46,(sL (cA (aq k) 0) (c.u.getD k v_).v.length (cK (aq k) 0))),(47,((c.u.getD k v_).v.length:Int)),(48,(i:Int))]/\mm=(c.u.getD k v_).v.length-i/\(lD a.l aa.s ((c.u.getD k v_).v.drop i)=lD a.l wk (c.u.getD k v_).v)/\(EmO aa.s)/\(aa.s.l.length<=wk.l.length+i *11)/\(JsO aa.s (c.u.length:Int))/\(i<=(c.u.getD k v_).v.length)) _ ⟨0,kg,_,fR,g6,f_,V,(by simp only[N,E];rw[ld];rfl),(by simp only[N,E];exact e2),(by simp only[N,E];omega),(by simp only[N,E];exact e4),M⟩ ?_
  rintro o0 pH pn ⟨i,aa,o5,a3,bl,f7,rfl,i1,i2,i3,i4,ik⟩ jq;refine au _ f7 (fun _=>?_);clear f7;replace hT:=hT.mono a3;replace av:=av.mono a3;replace aw:=aw.mono a3;replace b6:=b6.mono a3;replace a5:=a5.mono a3;refine am 1 V (wT 2 [] 49 49 [] [(49,(decide ((i:Int)<((c.u.getD k v_).v.length:Int))))] V fun _=>zd 4 4 (fun k6=>?_) fun k6=>?_)
  ·have qg:=(bD (vF.v k lr i (by show i<(c.u.getD k v_).v.length;omega))).2.2;have q1:=exp_len (v:=(c.u.getD k v_).v.getD i v_) (l:=a.l);have oW:((c.u.getD k v_).v.getD i v_).args.length<=6:=qg;refine ab ?_;obtain⟨e6,ha⟩:=Sv.view (SR.sv a5 bl);obtain⟨n5,n6,n7,oa,ob,hG⟩:=VInT.fx (ha i);let hL:Value:=(aG [((c.u.getD k v_).v.getD i v_).i.op,((c.u.getD k v_).v.getD i v_).i.a,((c.u.getD k v_).v.getD i v_).i.b,((c.u.getD k v_).v.getD i v_).i.c,((c.u.getD k v_).v.getD i v_).i.n,(sL (cA (e6 i) 5) ((c.u.getD k v_).v.getD i v_).args.length (cK (e6 i) 5))])
   refine bK 2 0 50 51 [] [(51,hL)] (Ha_ (Sv.ix (j:=(i:Int)) (SR.sv a5 bl)) (Hl_ 1 (qn 88 0 6 (VInT.vw (ha i)) V V V V) Hn_)) K_ V fun _=>zn bl V fun pD pq il=>sgo 1 3 1 0 [] [] (Hr_ 3 13 Hn_) il V V fun oJ pu d1=>ae 1 V (ab (aS 3 0 52 54 [] [(52,(pT y 0)),(53,hL),(54,(aG [(sL b2 a.l.length ch),(sL b4 a.p.length ci),a.k]))] (Hr_ 1 13 (Hr_ 2 2 Hn_)) d1 V V fun _=>?_))
   refine zc (xa.expand_c ex ((c.u.getD k v_).v.getD i v_) a (HS.call d1) M M M M M hG av aw M hT M) ?_;rintro _ pw ⟨ox,oX,pY,pW,o6,f0,d2,rfl,hC,rfl⟩;replace d2:=HS.back d1 V d2;obtain⟨o8,f3,g7,h2,oU⟩:=OS.frz hC d2 (i:=14) V;replace hT:=(hT.mono f0).mono f3;refine zc (put_c ex (lY ((c.u.getD k v_).v.getD i v_) a.l) aa (g_ g7 V) h2 hT (EmO.j0 X) M) ?_;rintro _ px ⟨ka,o7,hP,em,rfl,c8⟩;replace em:=g7.bO em;refine ae 2 V (wU 1 [] 48 48 [57] [(48,(iI ((i:Int)+1)))] (vi (n:=(i:Int)+1)) V fun _=>?_);refine jq _ _ _ ?_ ⟨i+1,ka,_,(fT (fT (fT (a3) f0) f3) hP),(HS.sub em (a01 _ _)),f_,V,(ins_go i1 M (by simp only[c8,N,E])),(by simp only[c8,N,E];exact EmO.pt _ X),(by simp only[c8,N,E,bT];omega),(by simp only[c8,N,E];exact JsO.pt X _),M⟩;omega
  have mx:=ins_end i1 M;refine ab (aS 5 0 58 62 [] [(58,(pT y 0)),(59,(aG [(sL (cA (aq k) 0) (c.u.getD k v_).v.length (cK (aq k) 0)),hr,ht,hu,hw])),(60,(aG [(sL b2 a.l.length ch),(sL b4 a.p.length ci),a.k])),(62,(iI ((k:Int)+1)))] (Hr_ 1 8 (Hr_ 2 2 (Ha_ (vi (n:=(k:Int)+1)) Hn_))) bl V V fun _=>zc (trm_c ex (c.u.getD k v_) a ((k:Int)+1) aa (g_ bl V) a5 M M M M av aw M M hT X M (fun h=>(by have h9:=vF.f k lr h;have h8:0<=(c.u.getD k v_).r/\(c.u.getD k v_).r<c.r:=h9;omega))) ?_);rintro _ py ⟨kc,o9,f4,et,rfl,c9⟩;replace et:=bl.bO et;replace b6:=b6.mono f4;refine ae 2 V (wU 1 [] 33 33 [64] [(33,(iI ((k:Int)+1)))] (vi (n:=(k:Int)+1)) V fun _=>?_);refine jb _ _ _ ?_ ⟨st++[A.s.sz],k+1,e0,hm,hn,kc,_,(fT (fT (a9) a3) f4),(HS.sub et (a01 _ _)),b6,f_,V,(blk_go e1 M (by simp only[c9,N,E,mx,ld])),(by simp only[c9,N,E];exact EmO.tr X _ _ _),(by simp only[c9,N,E];refine a0e (trm_len _ _ _ _) ?_;omega),(by simp only[c9,N,E];exact JsO.tr X (tg_of vF M) _ _),(by rw[a02,a0j,e5]),M⟩;omega
 have he:=fM e1 M;have co:A.s=(eZ c a.l w.s).1:=congrArg Prod.fst he;have hI:st=(eZ c a.l w.s).2:=congrArg Prod.snd he;have qf:=fun(j:Nat) (h:j<A.s.js.length)=>js_at e4 (k:=j) h
 have hY:OZ a4 A.la A.s.l A.lk A.lp:=A.lo.lowI;have b7:OZ a4 A.pa A.s.pl A.pk A.pp:=A.po.lowI;have b8:OZ a4 A.ja A.s.js A.jk A.jp:=A.jo.lowI;have oM:=A.gs;have g8:HS _ _ _ [(fP y [(sL A.la A.s.l.length A.lk),(sL A.pa A.s.pl.length A.pk),A.s.sz,(sL A.ja A.s.js.length A.jk)]),a1,a2,w.jp,[],[],[],ap,A.jp,A.pp,A.lp] _:=(HS.cut2 (HS.cut2 (HS.cut2 dd (q:=0) V) (q:=0) V) (q:=0) V)
 refine aU 2 65 70 [] [(68,(sL A.ja A.s.js.length A.jk)),(69,(A.s.js.length:Int)),(70,(iI 0))] (Hr_ 3 0 Hn_) g8 V V fun _=>aj (fun(mm:Nat) f H'=> ∃(lf:List InsT) (j:Nat),∃a_ T,∃(U:Nat),∃F',a4.le F'/\HS (Base.of H c6) F' H' [(fP y [(sL T lf.length U),(sL A.pa A.s.pl.length A.pk),A.s.sz,(sL A.ja A.s.js.length A.jk)]),a1,a2,w.jp,[],[],[],ap,A.jp,A.pp,a_] R/\OZ F' T lf U a_/\aA f [(0,(pT y 0)),(8,(sL ag st.length an)),(68,(sL A.ja A.s.js.length A.jk)),(69,(A.s.js.length:Int)),(70,(j:Int))]/\mm=(eZ c a.l w.s).1.js.length-j/\(fixE (eZ c a.l w.s).2 (eZ c a.l w.s).1.pl lf ((eZ c a.l w.s).1.js.drop j)=(gg c a.l w.s).1.l)/\(lf.length=(eZ c a.l w.s).1.l.length)/\(j<=(eZ c a.l w.s).1.js.length)) _ ⟨A.s.l,0,A.lp,A.la,A.lk,_,fR,g8,hY,f_,V,(by rw[co];rfl),(by rw[co]),M⟩ ?_
 rintro o1 pI kz ⟨lf,j,a_,T,U,kx,b5,dk,ay,f8,rfl,f1,f2,fj⟩ jw;refine au _ f8 (fun _=>?_);clear f8;replace b7:=b7.mono b5;replace b8:=b8.mono b5;replace ar:=ar.mono b5;have lv:=congrArg (fun s=>s.js.length) co;have lz:=congrArg (fun s=>s.l.length) co;have pN:=e2.pl;have pO:=e2.js
 (try dsimp only at lv lz)
 refine am 1 V (wT 2 [] 71 71 [] [(71,(decide ((j:Int)<(A.s.js.length:Int))))] V fun _=>zd 4 5 (fun k7=>?_) fun k7=>?_)
 ·have q3:=qf j M;refine ab ?_;obtain⟨oy,hf⟩:=Sv.view (OS.sv b8 dk (i:=8) V);obtain⟨oc,oh⟩:=JmpT.fx (hf j);let ez:=(A.s.js.getD j v_).to;refine bK 2 0 72 73 [] [(73,(aG [(A.s.js.getD j v_).at_,ez]))] (Ha_ (Sv.ix (j:=(j:Int)) (OS.sv b8 dk (i:=8) V)) (Hl_ 1 (qn 145 0 2 (JmpT.vw (hf j)) V V V V) Hn_)) K_ V fun _=>zn dk V fun pE pz it=>sgo 1 3 1 0 [] [] (Hr_ 3 11 Hn_) it V V fun oK pA ax=>ae 1 V (aC V ?_)
  obtain⟨oz,hg⟩:=Sv.view (OS.sv ar ax (i:=7) V);have pJ:=fI (hg (ez.toNat));obtain⟨oD,hh⟩:=Sv.view (OS.sv b7 ax (i:=9) V);let c5:=(A.s.js.getD j v_).at_.toNat;have pK:=fI (hh c5);let hq:=(st.getD (ez.toNat) 0)-(A.s.pl.getD c5 0)
  let bz:=lf.getD c5 v_;refine cN 22 74 95 [] [(93,(IntKind.i64.wrap hq)),(95,(.pointer (some ⟨sB (sL T lf.length U),sO (sL T lf.length U)+c5 *Rp.sz InsT+4,none⟩)))] (Hr_ 3 0 (Hr_ 5 11 (Hr_ 8 11 (Ha_ (Sv.ix (j:=(A.s.js.getD j v_).to) (OS.sv ar ax (i:=7) V)) (Hl_ 10 (ql 3 0 (hc0 (vI (hg (ez.toNat)))) V V) (Hr_ 14 0 (Hr_ 16 11 (Ha_ (Sv.ix (j:=(A.s.js.getD j v_).at_) (OS.sv b7 ax (i:=9) V)) (Hl_ 18 (ql 3 0 (hc0 (vI (hh c5))) V V) (Hw_ 19 (.w) (Ha_ (Sv.ix (j:=(A.s.js.getD j v_).at_) (OS.sv ay ax (i:=10) V)) Hn_))))))))))) ax V V fun _=>gc (id:= .x (a_.map Prod.fst)) (bW (α:=InsT) (j:=(A.s.js.getD j v_).at_.toNat) (off:=4) (q:=10) (⟨bz.op,bz.a,bz.b,bz.c,IntKind.i64.wrap hq⟩:InsT) ay ax.log0 V V V V V V V V (aO (x:=v_) M) V (by rintro cs ⟨rfl,mI,m0,nm,nx,pX⟩;exact⟨a08 V,⟨V,mI,m0,nm,nx,by exact w64_in _⟩⟩)) V (by rintro _ _ hK ⟨ds,_,hwr⟩;exact dh V V (Wr.did hwr)) (kb V) ?_
  rintro _ k0 hK ⟨ds,dl,_⟩ j1 hB;replace dl:=HS.lg dl ax hB;generalize ({k0 with log:=j1}:Heap)=oo at dl⊢;have ol:=OS.len' ds;refine aW 2 V (wU 1 [] 70 70 [96] [(70,(iI ((j:Int)+1)))] (vi (n:=(j:Int)+1)) V fun _=>?_);refine jw _ _ _ ?_ ⟨lf.set c5 (⟨bz.op,bz.a,bz.b,bz.c,IntKind.i64.wrap hq⟩:InsT),j+1,hK,T,U,_,(b5),(by(simpa only[a0f] using(HS.sub dl (a01 _ _)))),(OS.norm ds),f_,V,(fix_go f1 M (by rw[←co,←hI];rfl)),(by rw[a0f];exact f2),M⟩;omega
 refine wT 1 [] 6 6 [97] [(6,(sL ag st.length an))] V fun _=>?_
 obtain⟨ki,hF,iv⟩:=lG (P:=fun w9=>HS (Base.of H c6) kx kz [(psM y w9),a1,a2,w.jp,[],[],[],ap,[],[],[]] R) (⟨⟨lf,A.s.pl,A.s.sz,A.s.js⟩,T,U,a_,A.pa,A.pk,A.pp,A.ja,A.jk,A.jp,OS.lowI (ay),OS.lowI (b7),OS.lowI (b8),M⟩:EmW) (HS.join2 (HS.join2 (HS.join2 dk (q:=0) (i:=10) e_ V V) (q:=0) (i:=9) e_ V V) (q:=0) (i:=8) e_ V V);have cc:=congrArg (·.s) hF;obtain⟨pc,hQ,iz,h3,oV⟩:=OS.frz ar iv (i:=7) V;refine ak ⟨.inr V,_,V,ag,an,st,ki,_,(fT (fT (fT (a8) a9) b5) hQ),(HS.first iz),V,h3,(hI),(by simp only[cc,E];have f9:=fix_end f1 M;rw[f9,co];rfl),(by simp only[cc,E];have pQ:=e2.sz0;have pR:=e2.sz1;exact⟨by(try dsimp only);omega,by(try dsimp only);omega,by(try dsimp only);omega,by(try dsimp only);omega⟩),(by simp only[cc,E];(try dsimp only);omega)⟩
end ec
open ec
namespace ef
variable (ex:FuncId) {F:Fz} {H:Heap} {R:List Fp}
structure EmR where
 s:EmS
 st:List Int
 la:Option Addr
 lk:Nat
 lp:Fp
 ja:Option Addr
 jk:Nat
 jp:Fp
 pa:Option Addr
 pk:Nat
 pp:Fp
 ta:Option Addr
 tk:Nat
 tp:Fp
 lo:OS (fun _=>none) (sL la s.l.length lk) s.l lp
 jo:OS (fun _=>none) (sL ja s.js.length jk) s.js jp
 po:OS (fun _=>none) (sL pa s.pl.length pk) s.pl pp
 to_:OS (fun _=>none) (sL ta st.length tk) st tp
 gs:in64 s.sz
def psR(b:Nat)(w:EmR):Fp:=((([(b,.cells [sL w.la w.s.l.length w.lk,iI w.s.sz,sL w.ja w.s.js.length w.jk,sL w.pa w.s.pl.length w.pk,sL w.ta w.st.length w.tk] none false)]++w.lp)++w.jp)++w.pp)++w.tp
theorem fetS_fet{x}(h:x.inS=true):eQ 5 x.inS x.x=fetS x:=by unfold eQ fetS;rw[if_pos h,if_pos h]
theorem kW{y al ao}(l:List InsT)(w:EmR)(hs:HS (.of H ((psR y w).map Prod.fst)) F H [(psR y w)] R)(hl:Sr F al l ao)(hT:TB 37 tabC F)(hO:EmO ⟨w.s.l,w.s.pl,w.s.sz,[]⟩)(hb:w.s.l.length+l.length<=200000000):kKt ex 39 [(pT y 0),(S_ al l ao)] H fun v H'=> ∃(w':EmR),∃F',F.le F'/\HS (.of H ((psR y w).map Prod.fst)) F' H' [(psR y w')] R/\v= .tuple #[]/\(w'.s=eW w.s l)/\(w'.st=w.st):=by
 refine aB Tryz.func39 V V (am 1 V ?_);have ci:OZ F w.la w.s.l w.lk w.lp:=w.lo.lowI;have a3:OZ F w.ja w.s.js w.jk w.jp:=w.jo.lowI;have co:OZ F w.pa w.s.pl w.pk w.pp:=w.po.lowI;have a4:OZ F w.ta w.st w.tk w.tp:=w.to_.lowI;have g7:=w.gs;have c8:HS _ _ _ [(fP y [(S_ w.la w.s.l w.lk),w.s.sz,(S_ w.ja w.s.js w.jk),(S_ w.pa w.s.pl w.pk),(S_ w.ta w.st w.tk)]),w.tp,w.pp,w.jp,w.lp] _:=(HS.cut2 (HS.cut2 (HS.cut2 (HS.cut2 hs (q:=0) V) (q:=0) V) (q:=0) V) (q:=0) V)
 refine wT 2 [] 1 0 [4] [(4,(iI 0))] V fun _=>aj (fun(mm:Nat) f H'=> ∃(ll:List InsT) (sz:Int) (pp:List Int) (k:Nat),∃U A,∃(N:Nat),∃a_ E,∃(T:Nat),∃F',F.le F'/\HS (Base.of H ((psR y w).map Prod.fst)) F' H' [(fP y [(S_ A ll N),sz,(S_ w.ja w.s.js w.jk),(S_ E pp T),(S_ w.ta w.st w.tk)]),w.tp,a_,w.jp,U] R/\OZ F' A ll N U/\OZ F' E pp T a_/\aA f [(0,(pT y 0)),(1,(S_ al l ao)),(4,(k:Int))]/\mm=l.length-k/\((⟨ll,pp,sz,w.s.js⟩:EmS)=eW w.s (l.take k))/\(k<=l.length)/\(in64 sz)) _ ⟨w.s.l,w.s.sz,w.s.pl,0,w.lp,w.la,w.lk,w.pp,w.pa,w.pk,_,fR,c8,ci,co,f_,V,m_,M,X⟩ ?_
 rintro ha f7 H7 ⟨ll,sz,pp,k,U,A,N,a_,E,T,F7,ag,a8,Z,aa,bl,rfl,h2,hk,hsz⟩ dd;refine au _ bl (fun _=>?_);clear bl;replace hT:=hT.mono ag;replace hl:=hl.mono ag;replace a3:=a3.mono ag;replace a4:=a4.mono ag;have a1:=hO.pt (l.take k);rw[put_j0,←h2]at a1;have c5:=a1.pl;have c6:=a1.sz0;have c7:=a1.sz1;have hj:ll.length=w.s.l.length+(l.take k).length:=by have:=congrArg (fun s=>s.l.length) h2;rwa [bT]at this
 rw[a0o,a1S hk]at hj;dsimp only at c5 c6 c7;refine am 2 V (wT 1 [] 7 10 [] [(10,(decide ((k:Int)<(l.length:Int))))] V fun _=>zd 4 3 (fun c9=>?_) fun c9=>?_)
 ·have hM:0<=(aI (l.getD k v_).op).w/\(aI (l.getD k v_).op).w<=3:=jA (l.getD k v_);refine aC V (cN 9 13 21 [] [(13,(pT y 0)),(17,(S_ E pp T)),(21,sz)] (Hr_ 4 0 (Hr_ 8 0 Hn_)) a8 V V fun _=>zld [sz] a8 V (RL.cs ⟨V,M⟩ RL.nl) V fun g4 g8 hf e4 bt a5=>zad 2 aa a5 (OS.sv bt a5 (i:=5) V) V V V M (kb V) fun cc dk dn e5 aw b1=>sdo 3 24 25 [] [] (Hr_ 13 0 Hn_) b1 V V fun f2 f9 ap=>aW 2 V (aC V ?_));obtain⟨f0,a9⟩:=Sv.view (SR.sv hl ap);obtain⟨dt,dv,d1,d2,em⟩:=InsT.fx (a9 k);refine cN 9 26 34 [] [(26,(pT y 0)),(30,(S_ A ll N)),(34,(aG [(l.getD k v_).op,(l.getD k v_).a,(l.getD k v_).b,(l.getD k v_).c,(l.getD k v_).n]))] (Hr_ 4 0 (Ha_ (Sv.ix (j:=(k:Int)) (SR.sv hl ap)) (Hl_ 8 (qn 86 0 5 (hc0 (InsT.vw (a9 k))) V V V V) Hn_))) ap V V fun _=>zld [(l.getD k v_)] ap V (RL.cs ⟨V,M,M,M,M,M⟩ RL.nl) V fun g5 g9 hg e6 bz a7=>zad 4 Z a7 (OS.sv bz a7 (i:=6) V) V V V M (kb V) fun ch dl ds fd ax b2=>sdo 3 37 38 [] [] (Hr_ 13 0 Hn_) b2 V V fun f3 go aq=>aW 2 V (ab ?_)
  obtain⟨f1,bb⟩:=Sv.view (SR.sv hl aq);obtain⟨et,ez,e0,e1,e2⟩:=InsT.fx (bb k);refine bK 5 0 40 44 [] [(44,(l.getD k v_).op)] (Ha_ (Sv.ix (j:=(k:Int)) (SR.sv hl aq)) (Hl_ 4 (ql 3 0 (InsT.vw (bb k)) V V) Hn_)) K_ V fun _=>zc (m1.rInfo_c ex (l.getD k v_).op (HS.call aq) M hT) ?_
  rintro _ gt ⟨hh,he,f8,av,ay,rfl,b8,b9,rfl,rfl⟩;replace ay:=HS.back aq V ay;replace aw:=aw.mono av;replace ax:=ax.mono av;refine bK 3 6 46 47 [39] [(46,(aG [(tX (aI (l.getD k v_).op).name.b),(aI (l.getD k v_).op).f,(.bool (aI (l.getD k v_).op).ra),(.bool (aI (l.getD k v_).op).wa),(.bool (aI (l.getD k v_).op).rb),(.bool (aI (l.getD k v_).op).mt),(aI (l.getD k v_).op).w])),(47,(infO (l.getD k v_).op))] Hn_ K_ V fun _=>zn ay V fun g6 g1 b3=>sgo 2 10 1 0 [6] [] (Hr_ 10 7 Hn_) b3 V V fun f4 g2 b4=>ae 1 V (sdr 2 48 56 [] [] (Hr_ 3 0 (Hr_ 5 7 (Ha_ (vi (n:=sz+(aI (l.getD k v_).op).w)) (Hr_ 9 0 Hn_)))) b4 V V V fun f5 g3 b5=>wU 1 [] 11 12 [4] [(4,(iI ((k:Int)+1)))] (vi (n:=(k:Int)+1)) V fun _=>?_)
  refine dd _ _ _ ?_ ⟨ll++[(l.getD k v_)],sz+(aI (l.getD k v_).op).w,pp++[sz],k+1,ds,ch,dl,dn,cc,dk,_,(fT (ag) av),(HS.sub b5 (a01 _ _)),ax,aw,f_,V,(put_step h2 M),M,M⟩;omega
 obtain⟨b7,a2,b6⟩:=lG (P:=fun w9=>HS (Base.of H ((psR y w).map Prod.fst)) F7 H7 [(psR y w9),[],[],[],[]] R) (⟨⟨ll,pp,sz,w.s.js⟩,w.st,A,N,U,w.ja,w.jk,w.jp,E,T,a_,w.ta,w.tk,w.tp,OS.lowI (Z),OS.lowI (a3),OS.lowI (aa),OS.lowI (a4),M⟩:EmR) (HS.join2 (HS.join2 (HS.join2 (HS.join2 a8 (q:=0) (i:=4) e_ V V) (q:=0) (i:=3) e_ V V) (q:=0) (i:=2) e_ V V) (q:=0) (i:=1) e_ V V);have ar:=congrArg (·.s) a2;have an:=congrArg (·.st) a2;refine aM ⟨.inl V,_,V,b7,_,(ag),(HS.first b6),V,(by simp only[an,ar];exact h2.trans (by rw[a0h M])),(by simp only[an,ar])⟩
theorem rjmp_c{y}(op:Int)(a:Int)(ad:Int)(w:EmR)(hs:HS (.of H ((psR y w).map Prod.fst)) F H [(psR y w)] R)(ez:in64 op)(ha:in64 a)(dv:in64 ad)(hT:TB 37 tabC F)(hO:EmO w.s)(hb:w.s.l.length<=199999998):kKt ex 80 [(pT y 0),op,a,ad] H fun v H'=> ∃(w':EmR),∃F',F.le F'/\HS (.of H ((psR y w).map Prod.fst)) F' H' [(psR y w')] R/\v= .tuple #[]/\(w'.s=mF w.s ⟨op,a,0,0,0⟩ ad)/\(w'.st=w.st):=by
 have c5:=hO.js;have c6:=hO.pl;have c7:=hO.sz0;have c8:=hO.sz1;refine aB Tryz.func80 V V (am 1 V ?_);have a4:OZ F w.la w.s.l w.lk w.lp:=w.lo.lowI;have a5:OZ F w.ja w.s.js w.jk w.jp:=w.jo.lowI;have a8:OZ F w.pa w.s.pl w.pk w.pp:=w.po.lowI;have bb:OZ F w.ta w.st w.tk w.tp:=w.to_.lowI;have co:=w.gs;have ag:HS _ _ _ [(fP y [(S_ w.la w.s.l w.lk),w.s.sz,(S_ w.ja w.s.js w.jk),(S_ w.pa w.s.pl w.pk),(S_ w.ta w.st w.tk)]),w.tp,w.pp,w.jp,w.lp] _:=(HS.cut2 (HS.cut2 (HS.cut2 (HS.cut2 hs (q:=0) V) (q:=0) V) (q:=0) V) (q:=0) V)
 refine aC V (cN 12 8 19 [] [(8,(pT y 0)),(12,(S_ w.ja w.s.js w.jk)),(19,(aG [(w.s.l.length:Int),ad]))] (Hr_ 4 0 (Hr_ 8 0 Hn_)) ag V V fun _=>zld ([(⟨(w.s.l.length:Int),ad⟩:JmpT)]:List JmpT) ag V (RL.cs ⟨V,M,M⟩ RL.nl) V fun a7 k7 p7 ch bk an=>zad 3 a5 an (OS.sv bk an (i:=5) V) V V V M (kb V) fun a9 k9 p9 bt bl av=>sdo 3 22 23 [] [] (Hr_ 16 0 Hn_) av V V fun b1 a3 aw=>aW 1 V ?_);obtain⟨a2,T,ax⟩:=lG (P:=fun w9=>HS (Base.of H ((psR y w).map Prod.fst)) F a3 [(psR y w9),[],[],[],[],p7] R) (⟨⟨w.s.l,w.s.pl,w.s.sz,w.s.js++([(⟨(w.s.l.length:Int),ad⟩:JmpT)]:List JmpT)⟩,w.st,w.la,w.lk,w.lp,a9,k9,p9,w.pa,w.pk,w.pp,w.ta,w.tk,w.tp,OS.lowI (a4),OS.lowI (bl),OS.lowI (a8),OS.lowI (bb),M⟩:EmR) (HS.join2 (HS.join2 (HS.join2 (HS.join2 aw (q:=0) (i:=4) e_ V V) (q:=0) (i:=3) e_ V V) (q:=0) (i:=2) e_ V V) (q:=0) (i:=1) e_ V V);have E:=congrArg (·.s) T;have A:=congrArg (·.st) T;refine ab (wTo 4 0 [] 24 27 [] [(24,(pT y 0)),(27,(aG [op,a,(iI 0),(iI 0),(iI 0)]))] V fun _=>zlo ([(⟨op,a,0,0,0⟩:InsT)]:List InsT) ax V (RL.cs ⟨V,M,M,M,M,M⟩ RL.nl) V fun ci c9 dd b9 aq ay=>?_);obtain⟨b8,Z,aa,ar,b2⟩:=OS.frz aq ay (i:=6) V;replace hT:=hT.mono Z;refine zc (kW ex ([(⟨op,a,0,0,0⟩:InsT)]:List InsT) a2 (g_ aa V) ar hT (by(simp only[A,E];exact hO.j0)) (by(simp only[A,E];simp only[a0j];omega))) ?_;rintro _ cc ⟨a1,b7,ap,N,rfl,U,a_⟩;replace N:=aa.bO N;refine ae 0 V (aM ⟨.inl V,_,V,a1,_,(fT (Z) ap),(HS.first N),V,(by simp only[a_,U,A,E];rfl),(by simp only[a_,U,A,E])⟩)
theorem rtrm_c{y ax b4}(b:BlkT){aw b2 av bz}(a:AllT)(nx:Int)(w:EmR)(hs:HS (.of H ((psR y w).map Prod.fst)) F H [(psR y w)] R)(hK:Sr F ax b.v b4)(hL:in64 b.f)(hM:in64 b.r)(hP:in64 b.t)(hQ:in64 b.e)(U:Sr F av a.l bz)(hI:Sr F aw a.p b2)(hJ:in64 a.k)(lx:in64 nx)(hT:TB 37 tabC F)(hO:EmO w.s)(hb:w.s.l.length<=199999000)(hr:b.f=2\/b.f=3->0<=b.r/\b.r<(a.l.length:Int)):kKt ex 41 [(pT y 0),(aG [(S_ ax b.v b4),b.f,b.r,b.t,b.e]),(aG [(S_ av a.l bz),(S_ aw a.p b2),a.k]),nx] H fun v H'=> ∃(w':EmR),∃F',F.le F'/\HS (.of H ((psR y w).map Prod.fst)) F' H' [(psR y w')] R/\v= .tuple #[]/\(w'.s=fu w.s b a.l nx)/\(w'.st=w.st):=by
 refine aB Tryz.func41 V V (am 1 V (ab (aT (aN hs V V) V V ?_)));rintro _ H2 _ ⟨b1,rfl,hp,_⟩;refine aT (aN hp V V) V V ?_;rintro _ H4 _ ⟨b3,rfl,E,_⟩;refine ae 2 V (aU 3 9 10 [] [(10,b.f)] (Hr_ 1 1 Hn_) E V V fun _=>wT 1 [] 17 18 [] [(17,(b.f==1))] V fun _=>zI 1 1 (fun c7=>?_) fun c7=>?_)
 ·refine aU 1 19 22 [] [(22,(b.t !=nx))] (Hr_ 1 1 Hn_) E V V fun _=>zI 0 1 (fun c9=>?_) fun c9=>?_
  ·refine ab (aS 3 0 23 25 [] [(23,(pT y 0)),(25,b.t)] (Hr_ 2 1 Hn_) E V V fun _=>zc (rjmp_c ex (5) (0) b.t w (g_ E V) M M M hT X M) ?_);rintro _ i3 ⟨g5,h1,f1,a3,rfl,b5,ch⟩;replace a3:=E.bO a3;refine ae 1 V (aM ⟨.inl V,_,V,g5,_,(f1),(HS.first a3),V,(by(try simp only[ch,b5]);(try rw[h3]);unfold fu;(try unfold lZ);(repeat (first|rw[if_pos X]|rw[if_neg X]));(try rfl)),(by(simp only[ch,b5];done))⟩)
  refine aM ⟨.inl V,_,V,w,_,fR,(HS.first E),V,(by(try simp only[true_and]);(try rw[h3]);unfold fu;(try unfold lZ);(repeat (first|rw[if_pos X]|rw[if_neg X]));(try rfl)),m_⟩
 refine wT 1 [] 27 28 [] [(27,(b.f==2))] V fun _=>zI 1 1 (fun hk=>?_) fun hk=>?_
 ·refine ab ?_;obtain⟨hD,e2⟩:=Sv.view (SR.sv U E);have hq:=LocT.fx (e2 b.r.toNat);let fj:Value:=(aG [(.bool (a.l.getD b.r.toNat v_).inS),(a.l.getD b.r.toNat v_).x])
  refine aS 6 0 29 34 [] [(34,fj)] (Hr_ 1 2 (Hr_ 3 1 (Ha_ (Sv.ix (j:=b.r) (SR.sv U E)) (Hl_ 5 (qn 39 0 2 (LocT.vw (e2 b.r.toNat)) V V V V) Hn_)))) E V V fun _=>zc (xa.iK ex (a.l.getD b.r.toNat v_) (5) (HS.call E) M M hT) ?_
  rintro _ i4 ⟨k6,hh,a_,N,rfl,rfl⟩;replace N:=HS.back E V N;replace hT:=hT.mono a_;replace U:=U.mono a_;refine za (iI (eX (a.l.getD b.r.toNat v_).inS (a.l.getD b.r.toNat v_).x (5:Int))) (ae 3 V ?_);obtain⟨hE,e3⟩:=Sv.view (SR.sv U N);have ht:=LocT.fx (e3 b.r.toNat);refine aU 1 36 42 [] [(42,(.bool (a.l.getD b.r.toNat v_).inS))] (Hr_ 1 2 (Hr_ 3 1 (Ha_ (Sv.ix (j:=b.r) (SR.sv U N)) (Hl_ 6 (ql 4 0 (LocT.vw (e3 b.r.toNat)) V V) Hn_)))) N V V fun _=>ba (fun f H'=> ∃(A:EmR),∃F',hh.le F'/\HS (Base.of H ((psR y w).map Prod.fst)) F' H' [(psR y A),(fP b1 [(S_ ax b.v b4),b.f,b.r,b.t,b.e]),(fP b3 [(S_ av a.l bz),(S_ aw a.p b2),a.k])] R/\aA f [(0,(pT y 0)),(3,nx),(5,(pT b1 0)),(8,(eX (a.l.getD b.r.toNat v_).inS (a.l.getD b.r.toNat v_).x (5:Int)))]/\(EmO A.s)/\(A.s=eW w.s (fetS (a.l.getD b.r.toNat v_)))/\(A.st=w.st)) (fun e6=>?_) ?_
  ·refine zi 0 0 (fun ay=>?_) fun ay=>?_
   ·have d2:(a.l.getD b.r.toNat v_).inS=true:=ay;have hC:=fH (to:=5) (b:=(a.l.getD b.r.toNat v_).inS) (x:=(a.l.getD b.r.toNat v_).x);refine ab ?_;obtain⟨hF,e4⟩:=Sv.view (SR.sv U N);have hu:=LocT.fx (e4 b.r.toNat);refine aS 7 0 43 49 [] [(43,(pT y 0)),(49,fj)] (Hr_ 2 2 (Hr_ 4 1 (Ha_ (Sv.ix (j:=b.r) (SR.sv U N)) (Hl_ 6 (qn 39 0 2 (LocT.vw (e4 b.r.toNat)) V V V V) Hn_)))) N V V fun _=>zc (xa.gT ex (5) (a.l.getD b.r.toNat v_) (HS.call N) M M hT) ?_
    rintro _ jb ⟨hw,hX,k7,k0,h5,dd,a4,rfl,fd,rfl⟩;replace a4:=HS.back N V a4;obtain⟨h7,dk,et,go,hR⟩:=OS.frz fd a4 (i:=3) V;replace hT:=(hT.mono dd).mono dk;refine zc (kW ex (eQ (5:Int) (a.l.getD b.r.toNat v_).inS (a.l.getD b.r.toNat v_).x) w (g_ et V) go hT (EmO.j0 X) M) ?_;rintro _ jq ⟨g6,h6,f2,a5,rfl,a1,a2⟩;replace a5:=et.bO a5;refine ae 0 V ?_;exact e6 _ _ ⟨g6,_,(fT (fT (dd) dk) f2),(HS.sub a5 (a01 _ _)),f_,(by(simp only[a2,a1];exact hO.pt _)),(by(simp only[a2,a1];rw[fetS_fet d2])),(by(simp only[a2,a1]))⟩
   have d2: ¬(a.l.getD b.r.toNat v_).inS=true:=by(have h9:=ay;rw[show(a.l.getD b.r.toNat v_).inS=false from h9];decide)
   exact e6 _ _ ⟨w,_,fR,N,f_,X,(by(unfold fetS;rw[if_neg d2];rfl)),m_⟩
  skip;rintro kp i5 ⟨A,h2,aq,T,em,kr,h3,h4⟩;refine au _ em (fun _=>?_);clear em;replace hT:=hT.mono aq;have kx:A.s.l.length<=w.s.l.length+1:=by rw[h3,bT];exact Nat.add_le_add_left kv _
  refine am 3 V (aU 1 61 65 [] [(61,(b.e==nx))] (Hr_ 1 1 Hn_) T V V fun _=>zI 0 1 (fun hl=>?_) fun hl=>?_)
  ·refine ab (aS 4 0 66 69 [] [(66,(pT y 0)),(67,(eX (a.l.getD b.r.toNat v_).inS (a.l.getD b.r.toNat v_).x (5:Int))),(69,b.t)] (Hr_ 3 1 Hn_) T V V fun _=>zc (rjmp_c ex (8) (eX (a.l.getD b.r.toNat v_).inS (a.l.getD b.r.toNat v_).x (5:Int)) b.t A (g_ T V) M (gk M M) M hT X M) ?_);rintro _ jw ⟨g7,h8,f3,a7,rfl,b6,ci⟩;replace a7:=T.bO a7;refine ae 2 V (aM ⟨.inl V,_,V,g7,_,(fT (fT (a_) aq) f3),(HS.first a7),V,(by(try simp only[ci,b6]);(try rw[h3]);unfold fu;(try unfold lZ);(repeat (first|rw[if_pos X]|rw[if_neg X]));(try rfl)),(by(simp only[ci,b6];exact h4))⟩)
  refine aU 1 71 75 [] [(71,(b.t==nx))] (Hr_ 1 1 Hn_) T V V fun _=>zI 0 1 (fun hm=>?_) fun hm=>?_
  ·refine ab (aS 4 0 76 79 [] [(76,(pT y 0)),(77,(eX (a.l.getD b.r.toNat v_).inS (a.l.getD b.r.toNat v_).x (5:Int))),(79,b.e)] (Hr_ 3 1 Hn_) T V V fun _=>zc (rjmp_c ex (7) (eX (a.l.getD b.r.toNat v_).inS (a.l.getD b.r.toNat v_).x (5:Int)) b.e A (g_ T V) M (gk M M) M hT X M) ?_);rintro _ j1 ⟨g8,ib,f4,a8,rfl,b7,co⟩;replace a8:=T.bO a8;refine ae 2 V (aM ⟨.inl V,_,V,g8,_,(fT (fT (a_) aq) f4),(HS.first a8),V,(by(try simp only[co,b7]);(try rw[h3]);unfold fu;(try unfold lZ);(repeat (first|rw[if_pos X]|rw[if_neg X]));(try rfl)),(by(simp only[co,b7];exact h4))⟩)
  refine ab (aS 4 0 52 55 [] [(52,(pT y 0)),(53,(eX (a.l.getD b.r.toNat v_).inS (a.l.getD b.r.toNat v_).x (5:Int))),(55,b.t)] (Hr_ 3 1 Hn_) T V V fun _=>zc (rjmp_c ex (8) (eX (a.l.getD b.r.toNat v_).inS (a.l.getD b.r.toNat v_).x (5:Int)) b.t A (g_ T V) M (gk M M) M hT X M) ?_);rintro _ j2 ⟨g9,ih,dl,Z,rfl,aa,an⟩;replace Z:=T.bO Z;replace hT:=hT.mono dl;refine ae 1 V (ab (aS 3 0 57 59 [] [(57,(pT y 0)),(59,b.e)] (Hr_ 2 1 Hn_) Z V V fun _=>zc (rjmp_c ex (5) (0) b.e g9 (g_ Z V) M M M hT (by(simp only[an,aa];first|exact EmO.jm X _ _|exact EmO.pt _ X)) (by(simp only[an,aa,bT,df,a02,a0j,a07,a04];omega))) ?_));rintro _ ka ⟨ha,ii,f5,a9,rfl,b8,c5⟩;replace a9:=Z.bO a9;refine ae 2 V (aM ⟨.inl V,_,V,ha,_,(fT (fT (fT (a_) aq) dl) f5),(HS.first a9),V,(by(try simp only[c5,b8,an,aa]);(try rw[h3]);unfold fu;(try unfold lZ);(repeat (first|rw[if_pos X]|rw[if_neg X]));(try rfl)),(by(simp only[c5,b8,an,aa];exact h4))⟩)
 refine wT 1 [] 81 82 [] [(81,(b.f==3))] V fun _=>zI 1 0 (fun hn=>?_) fun hn=>?_
 ·have hC:=fH (to:=0) (b:=(a.l.getD b.r.toNat v_).inS) (x:=(a.l.getD b.r.toNat v_).x);refine ab ?_;obtain⟨hG,e5⟩:=Sv.view (SR.sv U E);have hv:=LocT.fx (e5 b.r.toNat);refine aS 7 0 83 89 [] [(83,(pT y 0)),(89,(aG [(.bool (a.l.getD b.r.toNat v_).inS),(a.l.getD b.r.toNat v_).x]))] (Hr_ 2 2 (Hr_ 4 1 (Ha_ (Sv.ix (j:=b.r) (SR.sv U E)) (Hl_ 6 (qn 39 0 2 (LocT.vw (e5 b.r.toNat)) V V V V) Hn_)))) E V V fun _=>zc (xa.gT ex (0) (a.l.getD b.r.toNat v_) (HS.call E) M M hT) ?_
  rintro _ kc ⟨hz,hY,k8,k3,ik,dn,bb,rfl,fi,rfl⟩;replace bb:=HS.back E V bb;obtain⟨it,dt,ez,gt,hS⟩:=OS.frz fi bb (i:=3) V;replace hT:=(hT.mono dn).mono dt;refine zc (kW ex (eQ (0:Int) (a.l.getD b.r.toNat v_).inS (a.l.getD b.r.toNat v_).x) w (g_ ez V) gt hT (EmO.j0 X) M) ?_;rintro _ kd ⟨he,il,ds,bk,rfl,ag,ap⟩;replace bk:=ez.bO bk;refine ae 1 V (ab (wTo 2 0 [] 92 93 [] [(92,(pT y 0)),(93,(aG [(iI 2),(iI 0),(iI 0),(iI 0),(iI 0)]))] V fun _=>zlo ([(⟨2,0,0,0,0⟩:InsT)]:List InsT) bk V (RL.cs ⟨V,M,M,M,M,M⟩ RL.nl) V fun kn ky k4 kg f8 g3=>?_));obtain⟨iz,dv,e0,g1,hV⟩:=OS.frz f8 g3 (i:=4) V;replace hT:=(hT.mono ds).mono dv;refine zc (kW ex ([(⟨2,0,0,0,0⟩:InsT)]:List InsT) he (g_ e0 V) g1 hT (by(simp only[ap,ag];first|exact(EmO.jm X _ _).j0|exact(EmO.pt _ X).j0)) (by(simp only[ap,ag,bT,df,a02,a0j,a07,a04];omega))) ?_;rintro _ ki ⟨hf,iv,f6,bl,rfl,b9,c6⟩;replace bl:=e0.bO bl;refine ae 1 V (aM ⟨.inl V,_,V,hf,_,(fT (fT (fT (fT (dn) dt) ds) dv) f6),(HS.first bl),V,(by(try simp only[c6,b9,ap,ag]);(try rw[h3]);unfold fu;(try unfold lZ);(repeat (first|rw[if_pos X]|rw[if_neg X]));(try rfl)),(by(simp only[c6,b9,ap,ag];done))⟩)
 refine ab (aS 4 0 11 14 [] [(11,(pT y 0)),(14,(aG [(iI 4),(iI 0),(iI 0),(iI 0),b.t]))] (Hr_ 2 1 Hn_) E V V fun _=>zlo ([(⟨4,0,0,0,b.t⟩:InsT)]:List InsT) E V (RL.cs ⟨V,M,M,M,M,M⟩ RL.nl) V fun ko kz k5 kk f9 g4=>?_);obtain⟨i2,d1,e1,g2,hW⟩:=OS.frz f9 g4 (i:=3) V;replace hT:=hT.mono d1;refine zc (kW ex ([(⟨4,0,0,0,b.t⟩:InsT)]:List InsT) w (g_ e1 V) g2 hT (EmO.j0 X) (by(simp only[true_and,bT,df,a02,a0j,a07,a04];omega))) ?_;rintro _ kl ⟨hg,i1,f7,bt,rfl,cc,c8⟩;replace bt:=e1.bO bt;refine ae 1 V (aM ⟨.inl V,_,V,hg,_,(fT (d1) f7),(HS.first bt),V,(by(try simp only[c8,cc]);(try rw[h3]);unfold fu;(try unfold lZ);(repeat (first|rw[if_pos X]|rw[if_neg X]));(try rfl)),(by(simp only[c8,cc];done))⟩)
end ef
open ef
namespace eg
open Go.R m1 m2 m3 m4 m5 m6 ma ml mb mc md mf mg mh mi mj na nb nc ni nv m7 xa ej ea eb
structure EmA where
 s:EmS
 en:List Int
 pr:List Int
 sl:List Int
 ad:List (List Int)
def emS(l:List VFnT)(a:List AllT):Nat->EmA
 |0=>⟨⟨[],[],0,[]⟩,[],[],[],[]⟩
 |k+1=>⟨(gg (l.getD k v_) (a.getD k v_).l (emS l a k).s).1,(emS l a k).en++[(emS l a k).s.sz],(emS l a k).pr++[(l.getD k v_).m],(emS l a k).sl++[(a.getD k v_).k],(emS l a k).ad++[(gg (l.getD k v_) (a.getD k v_).l (emS l a k).s).2]⟩
structure emC(l:List VFnT)(a:List AllT)(lens:List Int):Prop where
 vp:vpV l lens=true
 len:a.length=l.length
 snd: ∀k,k<l.length->SndP (l.getD k v_) (a.getD k v_)
def emV(l:List VFnT)(a:List AllT)(lens:List Int):BinT×List (List Int)×Int:=if bP (emC l a lens)=true then(⟨i0 (emS l a l.length).s.l,(emS l a l.length).en,(emS l a l.length).pr,(emS l a l.length).sl,lens⟩,(emS l a l.length).ad,0) else(⟨[],[],[],[],[]⟩,[],1)
theorem ju{l a lens}(h: ¬emC l a lens):emV l a lens=(⟨[],[],[],[],[]⟩,[],1):=by unfold emV;rw[←bP_n h];rfl
theorem emV_y{l a lens}(h:emC l a lens):emV l a lens=(⟨i0 (emS l a l.length).s.l,(emS l a l.length).en,(emS l a l.length).pr,(emS l a l.length).sl,lens⟩,(emS l a l.length).ad,0):=by unfold emV;rw[←bP_y h];rfl
structure OkE(l:List VFnT)(a:List AllT):Prop where
 vld: ∀i∈(emS l a l.length).s.l,VldI i
 sz:(emS l a l.length).s.sz<=60000
theorem vp_imp{l lens}(h:vpV l lens=true):(1<=l.length/\l.length<=8/\lens.length<=4)/\∀k,k<l.length->cb (l.getD k v_)=true:=by unfold vpV at h;simp only[a0a,decide_eq_true_eq]at h;refine⟨h.1.1,fun k A=>?_⟩;have:=lS h.2 A;unfold vpF at this;rw[a0a]at this;exact this.1
theorem vld_at{l:List InsT}(h: ∀i∈l,VldI i){k:Nat}(A:k<l.length):VldI (l.getD k v_):=by rw[a03,a06 A];exact h _ (a0T A)
def lV(l:List InsT):Int:=(l.map wdI).sum
theorem sum_app(l m:List InsT):lV (l++m)=lV l+lV m:=by unfold lV;rw[a0Z,List.sum_append]
theorem enc_len: ∀{l:List InsT},(∀i∈l,VldI i)->((i0 l).length:Int)=lV l
 | [],_=>rfl
 |i::l,h=>by
  have A:=enc_len (l:=l) fun j N=>h j (a0i _ N)
  have E:=en_len (h i (a0q ..));rw[show i0 (i::l)=enW i++i0 l from V,a02,show lV (i::l)=wdI i+lV l from by unfold lV;rw[a1L,a27]];unfold wdI;omega
structure ShE(A:List InsT)(Q:List Int)(z:Int)(x y:EmS):Prop where
 l:x.l=A++y.l
 pl:x.pl=Q++y.pl
 sz:x.sz=y.sz
 js:x.js=y.js.map fun j=>⟨j.at_+(A.length:Int),j.to⟩
 q:Q.length=A.length
 yl:y.pl.length=y.l.length
 j0: ∀j∈y.js,0<=j.at_
 sm:y.sz=z+lV y.l
theorem ShE.p1{A Q}{z:Int}{x y}(h:ShE A Q z x y)(i:InsT):ShE A Q z (put1 x i) (put1 y i):=by
 refine⟨?_,?_,?_,h.js,h.q,?_,h.j0,?_⟩
 ·show x.l++[i]=A++(y.l++[i]);rw[h.l,a0l]
 ·show x.pl++[x.sz]=Q++(y.pl++[y.sz]);rw[h.pl,h.sz,a0l]
 ·show x.sz+wdI i=y.sz+wdI i;rw[h.sz]
 ·show(y.pl++[y.sz]).length=(y.l++[i]).length;rw[a02,a02,h.yl];rfl
 show y.sz+wdI i=z+lV (y.l++[i]);rw[sum_app,h.sm];unfold lV;simp only[a1L,List.map_nil,a27,List.sum_nil];omega
theorem ShE.pt{A Q}{z:Int}: ∀(l:List InsT) {x y:EmS},ShE A Q z x y->ShE A Q z (eW x l) (eW y l)
 | [],_,_,h=>h
 |i::l,_,_,h=>ShE.pt l (h.p1 i)
theorem ShE.jm{A Q}{z:Int}{x y}(h:ShE A Q z x y)(i:InsT)(b:Int):ShE A Q z (mF x i b) (mF y i b):=by
 unfold mF;refine ShE.pt _ ⟨h.l,h.pl,h.sz,?_,h.q,h.yl,?_,h.sm⟩
 ·show x.js++[_]=(y.js++[_]).map _;rw[a0Z,h.js,h.l,a02];congr 1;simp only[a1L,List.map_nil,a2o,and_true];rw[Int.natCast_add,Int.add_comm]
 intro j E;rcases a09.1 E with E|E
 ·exact h.j0 j E
 rw[a0b]at E;subst E;exact Int.natCast_nonneg _
theorem ShE.tr{A Q}{z:Int}{x y}(h:ShE A Q z x y)(b:BlkT)(E:List LocT)(N:Int):ShE A Q z (fu x b E N) (fu y b E N):=by
 unfold fu;split
 ·split
  ·exact h
  exact h.jm _ _
 split
 ·unfold lZ;split
  ·exact(h.pt _).jm _ _
  split
  ·exact(h.pt _).jm _ _
  exact((h.pt _).jm _ _).jm _ _
 split
 ·exact(h.pt _).pt _
 exact h.pt _
theorem ShE.v{A Q}{z:Int}(E:List LocT): ∀(l:List VInT) {x y:EmS},ShE A Q z x y->ShE A Q z (lD E x l) (lD E y l)
 | [],_,_,h=>h
 |_::l,_,_,h=>ShE.v E l (h.pt _)
theorem ShE.par{A Q}{z:Int}{x y}(h:ShE A Q z x y): ∀n,ShE A Q z (parE x n) (parE y n)
 |0=>h
 |n+1=>(ShE.par h n).pt _
theorem ShE.blk{A Q}{z:Int}(T:List LocT): ∀(bs:List BlkT) (k:Int) {x y:EmS} (st:List Int),ShE A Q z x y->ShE A Q z (j3 T bs k (x,st)).1 (j3 T bs k (y,st)).1/\(j3 T bs k (x,st)).2=(j3 T bs k (y,st)).2
 | [],_,_,_,_,h=>⟨h,V⟩
 |b::bs,k,x,y,st,h=>by
  have N:=ShE.blk T bs (k+1) (st++[x.sz]) ((h.v T b.v).tr b T (k+1));have e:x.sz=y.sz:=h.sz;refine⟨?_,?_⟩
  ·have E:=N.1;unfold j3;rw[e]at E⊢;exact E
  have E:=N.2;unfold j3;rw[e]at E⊢;exact E
theorem fixJ_sh{st Q pl A l j}(U:0<=j.at_)(T:Q.length=A.length):fixJ st (Q++pl) (A++l) ⟨j.at_+(A.length:Int),j.to⟩=A++fixJ st pl l j:=by
 have e:(j.at_+(A.length:Int)).toNat=A.length+j.at_.toNat:=M
 have E:(A++l).getD (A.length+j.at_.toNat) v_=l.getD j.at_.toNat v_:=by rw[a03,a0S M,a03,a29]
 have N:(Q++pl).getD (A.length+j.at_.toNat) 0=pl.getD j.at_.toNat 0:=by rw[a03,a0S M,a03,T,a29]
 unfold fixJ;dsimp only;rw[e,E,N,List.set_append_right _ _ M,a29]
theorem fixE_sh{st Q pl A}(N:Q.length=A.length): ∀(E:List JmpT) (l:List InsT),(∀j∈E,0<=j.at_)->fixE st (Q++pl) (A++l) (E.map fun j=>⟨j.at_+(A.length:Int),j.to⟩)=A++fixE st pl l E
 | [],_,_=>rfl
 |j::E,l,h=>by show fixE st (Q++pl) (fixJ st (Q++pl) (A++l) _) _=A++fixE st pl (fixJ st pl l j) E;rw[fixJ_sh (h j (a0q ..)) N];exact fixE_sh N E _ fun j T=>h j (a0i _ T)
theorem fixJ_sum{st pl l j}:(fixJ st pl l j).map InsT.op=l.map InsT.op:=by
 unfold fixJ;apply a1l;intro i;rw[a18,a18,a1T];split
 ·rename_i h;subst h;rcases a0k j.at_.toNat l.length with A|A
  ·rw[if_pos A,a03,a06 A];rfl
  rw[if_neg M,a0J A]
 rfl
theorem fixE_op{st pl}: ∀(A:List JmpT) (l:List InsT),(fixE st pl l A).map InsT.op=l.map InsT.op
 | [],_=>rfl
 |j::A,l=>(fixE_op A _).trans fixJ_sum
theorem sum_op{l m}(h:l.map InsT.op=m.map InsT.op):lV l=lV m:=by
 have e: ∀l:List InsT,l.map wdI=(l.map InsT.op).map fun o=>(aI o).w:=fun l=>by rw[List.map_map];rfl
 unfold lV;rw[e,e,h]
theorem fun_sh(c:VFnT)(U:List LocT){s}(h:s.pl.length=s.l.length):
  (gg c U s).1.l=s.l++(gg c U ⟨[],[],s.sz,[]⟩).1.l/\(gg c U s).1.sz=(gg c U ⟨[],[],s.sz,[]⟩).1.sz/\(gg c U s).2=(gg c U ⟨[],[],s.sz,[]⟩).2/\(gg c U s).1.pl.length=(gg c U s).1.l.length/\(gg c U ⟨[],[],s.sz,[]⟩).1.sz=s.sz+lV (gg c U ⟨[],[],s.sz,[]⟩).1.l:=by
 have h0:ShE s.l s.pl s.sz ⟨s.l,s.pl,s.sz,[]⟩ ⟨[],[],s.sz,[]⟩:=⟨by rw[a0p],by rw[a0p],V,V,h,V,(fun j hj=>nomatch hj),by show s.sz=s.sz+0;omega⟩
 obtain⟨A,T⟩:=ShE.blk U c.u 0 [] (h0.par c.m.toNat)
 have E:(eZ c U s).2=(eZ c U ⟨[],[],s.sz,[]⟩).2:=T
 have A:ShE s.l s.pl s.sz (eZ c U s).1 (eZ c U ⟨[],[],s.sz,[]⟩).1:=A
 have N:(gg c U s).1.l=s.l++(gg c U ⟨[],[],s.sz,[]⟩).1.l:=by show fixE (eZ c U s).2 (eZ c U s).1.pl (eZ c U s).1.l (eZ c U s).1.js=_;rw[A.l,A.pl,A.js,fixE_sh h.symm.symm _ _ A.j0,E];rfl
 have Z: ∀x:EmS,(gg c U x).1.l.length=(eZ c U x).1.l.length:=fun x=>by have:=congrArg List.length (fixE_op (st:=(eZ c U x).2) (pl:=(eZ c U x).1.pl) (eZ c U x).1.js (eZ c U x).1.l);rwa [a1A,a1A]at this
 refine⟨N,A.sz,E,?_,?_⟩
 ·rw[Z];show(eZ c U s).1.pl.length=_;rw[A.pl,A.l,a02,a02,h,A.yl]
 show(eZ c U ⟨[],[],s.sz,[]⟩).1.sz=s.sz+lV (fixE _ _ _ _)
 rw[sum_op (fixE_op _ _)];exact A.sm
theorem lI(l:List VFnT)(a:List AllT): ∀k,(emS l a k).s.pl.length=(emS l a k).s.l.length/\(emS l a k).s.sz=lV (emS l a k).s.l
 |0=>⟨V,V⟩
 |k+1=>by obtain⟨U,a_⟩:=lI l a k;obtain⟨A,E,_,N,T⟩:=fun_sh (l.getD k v_) (a.getD k v_).l U;refine⟨N,?_⟩;show(gg _ _ (emS l a k).s).1.sz=lV (gg _ _ (emS l a k).s).1.l;rw[A,E,T,sum_app,a_]
theorem emS_pre(l:List VFnT)(a:List AllT)(k:Nat): ∀n,∃r,(emS l a (k+n)).s.l=(emS l a k).s.l++r
 |0=>⟨[],(a0p _).symm⟩
 |n+1=>by obtain⟨r,h⟩:=emS_pre l a k n;obtain⟨A,_⟩:=fun_sh (l.getD (k+n) v_) (a.getD (k+n) v_).l (lI l a (k+n)).1;exact⟨r++_,by show(gg (l.getD (k+n) v_) (a.getD (k+n) v_).l (emS l a (k+n)).s).1.l=_;rw[A,h,a0l]⟩
theorem emS_vld{l a k n}(h: ∀i∈(emS l a n).s.l,VldI i)(A:k<=n): ∀i∈(emS l a k).s.l,VldI i:=fun i hi=>by obtain⟨r,e⟩:=emS_pre l a k (n-k);rw[show k+(n-k)=n by omega]at e;exact h i (by rw[e];exact a1W _ hi)
theorem emS_new{l a k n}(h: ∀i∈(emS l a n).s.l,VldI i)(N:k<n):(∀i∈(gg (l.getD k v_) (a.getD k v_).l ⟨[],[],(emS l a k).s.sz,[]⟩).1.l,VldI i)/\(emS l a (k+1)).s.l=(emS l a k).s.l++(gg (l.getD k v_) (a.getD k v_).l ⟨[],[],(emS l a k).s.sz,[]⟩).1.l/\(emS l a (k+1)).ad=(emS l a k).ad++[(gg (l.getD k v_) (a.getD k v_).l ⟨[],[],(emS l a k).s.sz,[]⟩).2]:=by
 obtain⟨A,_,E,_⟩:=fun_sh (l.getD k v_) (a.getD k v_).l (lI l a k).1;refine⟨fun i hi=>emS_vld h (k:=k+1) N i ?_,A,?_⟩
 ·show i∈(gg _ _ (emS l a k).s).1.l;rw[A];exact a1s _ hi
 show(emS l a k).ad++[_]=_;rw[E]
theorem lH{l a k n}(h: ∀i∈(emS l a n).s.l,VldI i)(A:k<=n):((i0 (emS l a k).s.l).length:Int)=(emS l a k).s.sz:=by rw[enc_len (emS_vld h A),(lI l a k).2]
theorem sum_ge(l:List InsT):0<=lV l:=by
 induction l with
 |nil=>exact a1G _
 |cons i l ih=>
  rw[show lV (i::l)=wdI i+lV l from by unfold lV;rw[a1L,a27]]
  have:=jA i
  omega
theorem nN{l a k n}(A:k<=n):(emS l a k).s.sz<=(emS l a n).s.sz:=by obtain⟨r,e⟩:=emS_pre l a k (n-k);rw[show k+(n-k)=n by omega]at e;rw[(lI l a k).2,(lI l a n).2,e,sum_app];have:=sum_ge r;omega
end eg
open eg
namespace eh
variable (ex:FuncId) {F:Fz} {H:Heap} {R:List Fp}
theorem em_0n{l a lens}(h:((!(vpV l lens))||((a.length:Int) !=(l.length:Int)))=true): ¬emC l a lens:=fun g=>by rw[g.vp,g.len]at h;simp at h
theorem em_0y{l:List VFnT}{a:List AllT}{lens:List Int}(h:((!(vpV l lens))||((a.length:Int) !=(l.length:Int)))=false):vpV l lens=true/\a.length=l.length:=by simp only[a1i,a26,bne_eq_false_iff_eq]at h;exact⟨h.1,M⟩
theorem em_sn{p}(h:(!(bP p))=true): ¬p:=fun g=>by rw[←bP_y g]at h;cases h
theorem em_sy{p}(h:(!(bP p))=false):p:=bP_iff.1 (by simpa using h)
theorem emit_c{fd hd}(l:List VFnT){k9 ld}(a:List AllT){a0 a6}(lens:List Int)(hs:Hb H F H [] R)(hl:Sr F fd l hd)(ha:Sr F k9 a ld)(ai:Sr F a0 lens a6)(hT:TB 37 tabC F)(p0:lens.length<=1073741824/\∀k j,((l.getD k v_).u.getD j v_).v.length<=1000)(qU:emC l a lens->OkE l a):kKt ex 13 [(S_ fd l hd),(S_ k9 a ld),(S_ a0 lens a6)] H fun v H'=> ∃(b:BinT),∃fj,∃(hm:Nat),∃f0,∃(hn:Nat),∃f1,∃(hp:Nat),∃f2,∃(hr:Nat),∃f3,∃(ht:Nat),∃pZ,∃(p3:Nat) (ad:List (List Int)) (e:Int),∃F',F.le F'/\Hb H F' H' [] R/\v= .tuple ⟨[.agg ⟨[sL fj b.wd.length hm,sL f0 b.en.length hn,sL f1 b.pr.length hp,sL f2 b.sl.length hr,sL f3 b.al.length ht]⟩,sL pZ ad.length p3,iI e]⟩/\Sr F' fj b.wd hm/\Sr F' f0 b.en hn/\Sr F' f1 b.pr hp/\Sr F' f2 b.sl hr/\Sr F' f3 b.al ht/\Sr F' pZ ad p3/\b=(emV l a lens).1/\ad=(emV l a lens).2.1/\e=(emV l a lens).2.2:=by
 have ks:=p0.2;refine aB Tryz.func13 V V (am 1 V (ab (zn hs V fun b1 H2 hV=>wTo 2 1 [] 7 8 [] [(7,N_),(8,(iI 0))] V fun _=>ae 3 V ?_)));refine sj 1 17 27 [] [(27,((!(vpV l lens))||((a.length:Int) !=(l.length:Int))))] (Hk_ 2 (jc hV fun _ _ j q=>m8.vprog_c ex l lens q (hl.mono j) (ai.mono j) (hT.mono j) (⟨p0.1,fun k j=>a0e (ks k j) M⟩)) Hn_) hV K_ V fun pH H4 F4 b8 hW=>?_
 replace hT:=hT.mono b8;replace ha:=ha.mono b8;replace hl:=hl.mono b8;replace ai:=ai.mono b8;refine zi 1 3 (fun e6=>?_) fun e6=>?_
 ·have c5:=e6;try simp only[BS]at c5
  have ao:=em_0n e6;refine sgr 1 7 8 [28] [(7,N_),(8,(iI 1))] (Hr_ 1 0 Hn_) hW V V fun pI H6 hX=>ak ⟨.inr V,_,(rC V (l7 V V (h_ hX V) V) (rT V (rT V rN))),(⟨([]:List U32),([]:List Int),([]:List Int),([]:List Int),([]:List Int)⟩:BinT),none,0,none,0,none,0,none,0,none,0,none,0,([]:List (List Int)),1,_,(b8),(HS.forget hX),V,(SR.nil:SR F4 N_ ([]:List U32)),(SR.nil:SR F4 N_ ([]:List Int)),(SR.nil:SR F4 N_ ([]:List Int)),(SR.nil:SR F4 N_ ([]:List Int)),(SR.nil:SR F4 N_ ([]:List Int)),(SR.nil:SR F4 N_ ([]:List (List Int))),(by(rw[ju ao];try rfl)),(by(rw[ju ao];try rfl)),(by(rw[ju ao];try rfl))⟩
 have g9:=em_0y e6;have p2:=vp_imp g9.1;let c7:Fp:=(fP b1 [N_,N_,N_,N_,N_])
 refine wT 2 [] 29 31 [] [(30,(l.length:Int)),(31,(iI 0))] V fun _=>aj (fun(mm:Nat) f H'=> ∃(k:Nat),∃F',F4.le F'/\Hb H F' H' [c7] R/\aA f [(0,(S_ fd l hd)),(1,(S_ k9 a ld)),(2,(S_ a0 lens a6)),(6,(pT b1 0)),(30,(l.length:Int)),(31,(k:Int))]/\mm=l.length-k/\(k<=l.length)/\(∀q,q<k->SndP (l.getD q v_) (a.getD q v_))) _ ⟨0,_,fR,hW,f_,V,M,(fun _ h=>absurd h (a0D _))⟩ ?_
 rintro pR f8 H8 ⟨k,F8,cc,bk,hS,rfl,hk,hY⟩ l9;refine au _ hS (fun _=>?_);clear hS;replace hT:=hT.mono cc;replace ha:=ha.mono cc;replace hl:=hl.mono cc;replace ai:=ai.mono cc;refine am 1 V (wT 2 [] 32 32 [] [(32,(decide ((k:Int)<(l.length:Int))))] V fun _=>zd 4 5 (fun l2=>?_) fun l2=>?_)
 ·refine wT 2 [] 33 33 [9] [(9,(k:Int))] V fun _=>aC V ?_
  obtain⟨f5,he⟩:=Sv.view (SR.sv hl bk);obtain⟨n3,n4,hG⟩:=VFnT.fx (he k);obtain⟨c9,hf⟩:=Sv.view (SR.sv ha bk);obtain⟨n5,hH,hI⟩:=AllT.fx (hf k);refine cN 8 34 41 [] [(37,(aG [(l.getD k v_).m,(l.getD k v_).r,(sL (cA (f5 k) 2) (l.getD k v_).u.length (cK (f5 k) 2))])),(41,(aG [(sL (cA (c9 k) 0) (a.getD k v_).l.length (cK (c9 k) 0)),(sL (cA (c9 k) 1) (a.getD k v_).p.length (cK (c9 k) 1)),(a.getD k v_).k]))] (Ha_ (Sv.ix (j:=(k:Int)) (SR.sv hl bk)) (Hl_ 3 (qn 36 0 3 (hc0 (VFnT.vw (he k))) V V V V) (Ha_ (Sv.ix (j:=(k:Int)) (SR.sv ha bk)) (Hl_ 7 (qn 32 0 3 (hc0 (AllT.vw (hf k))) V V V V) Hn_)))) bk V V fun _=>aQ (W:=[]) (aP V V V) V V V (nv.sound_c ex (l.getD k v_) (a.getD k v_) (HS.call bk.log0) M M hG hH hI M hT (fun j=>a0e (ks k j) M)) (kb V) ?_
  rintro _ lr ⟨pS,ci,f6,a2,rfl,rfl⟩;refine⟨Wr.did a2.log,fun k6 hw=>?_⟩;replace a2:=HS.back bk.log0 V a2;replace a2:=HS.lg a2 bk hw;generalize ({lr with log:=k6}:Heap)=oy at a2⊢;refine wfv (v:=(.bool (!(bP (SndP (l.getD k v_) (a.getD k v_)))))) (ne V) (aW 1 V (zi 1 2 (fun c8=>?_) fun c8=>?_))
  ·have l3:=c8;try simp only[BS]at l3
   have ao: ¬emC l a lens:=fun h=>em_sn c8 (h.snd k M)
   refine sgr 1 7 8 [44] [(7,N_),(8,(iI 1))] (Hr_ 1 0 Hn_) a2 V V fun oL pd go=>ak ⟨.inr V,_,(rC V (l7 V V (h_ go V) V) (rT V (rT V rN))),(⟨([]:List U32),([]:List Int),([]:List Int),([]:List Int),([]:List Int)⟩:BinT),none,0,none,0,none,0,none,0,none,0,none,0,([]:List (List Int)),1,_,(fT (fT (b8) cc) f6),(HS.forget go),V,(SR.nil:SR ci N_ ([]:List U32)),(SR.nil:SR ci N_ ([]:List Int)),(SR.nil:SR ci N_ ([]:List Int)),(SR.nil:SR ci N_ ([]:List Int)),(SR.nil:SR ci N_ ([]:List Int)),(SR.nil:SR ci N_ ([]:List (List Int))),(by(rw[ju ao];try rfl)),(by(rw[ju ao];try rfl)),(by(rw[ju ao];try rfl))⟩
  have qY:SndP (l.getD k v_) (a.getD k v_):=em_sy c8;refine wU 1 [] 31 31 [45] [(31,(iI ((k:Int)+1)))] (vi (n:=(k:Int)+1)) V fun _=>?_
  refine l9 _ _ _ ?_ ⟨k+1,_,(fT (cc) f6),a2,f_,V,M,(cX hY qY)⟩;omega
 have dj:emC l a lens:=⟨g9.1,g9.2,fun q hq=>hY q M⟩
 have hO:=qU dj;refine ab (wTo 1 0 [] 46 46 [] [(46,(aG [N_,N_,(iI 0),N_]))] V fun _=>aT (aN bk V V) V V ?_);rintro _ pe _ ⟨bb,rfl,i5,_⟩;refine za (pT bb 0) (ae 2 V (ab (zlo ([]:List Int) i5 V RL.nl V fun pA pM pU pf ih gt=>zm (S_ a0 lens a6) (zao 2 ih gt (SR.sv ai gt) V V V M fun b5 b6 c6 pg a8 jb=>?_))));have a8:OZ F8 b5 lens b6 c6:=a8;refine bK 1 3 51 51 [] [(51,(aG [N_,N_,N_,N_,(S_ b5 lens b6)]))] Hn_ K_ V fun _=>zn jb V fun co ph jq=>sgo 1 5 1 0 [] [] (Hr_ 5 3 Hn_) jq V V fun oM lv jw=>ae 2 V (wT 3 [] 1 0 [12] [(12,N_)] V fun _=>?_)
 have j1:=HS.snoc jw;have j2:=HS.snoc j1;have ka:=HS.snoc j2;obtain⟨lf,hD,kc⟩:=lG (P:=fun w9=>Hb H F8 lv [c7,(psM bb w9),c6,(fP co [N_,N_,N_,N_,(S_ b5 lens b6)]),[],[],[]] R) (⟨⟨([]:List InsT),([]:List Int),0,([]:List JmpT)⟩,none,0,[],none,0,[],none,0,[],OS.lowI ((OS.nil:OS F8 N_ ([]:List InsT) [])),OS.lowI ((OS.nil:OS F8 N_ ([]:List Int) [])),OS.lowI ((OS.nil:OS F8 N_ ([]:List JmpT) [])),M⟩:EmW) (HS.join2 (HS.join2 (HS.join2 ka (q:=1) (i:=4) e_ V V) (q:=1) (i:=5) e_ V V) (q:=1) (i:=6) e_ V V);have aa:=congrArg (·.s) hD;refine wT 2 [] 52 54 [] [(52,(S_ fd l hd)),(53,(l.length:Int)),(54,(iI 0))] V fun _=>?_
 have kd:=HS.snoc kc;have kg:=HS.snoc kd;have ki:=HS.snoc kg;have kk:=HS.snoc ki;refine aj (fun(mm:Nat) f H'=> ∃(en:List Int) (pr:List Int) (sl:List Int) (ad:List (List Int)) (k:Nat),∃aq,∃(av:Nat),∃aw ag E,∃(U:Nat),∃an N,∃(a_:Nat),∃ap T,∃(Z:Nat) (A:EmW),∃F',F8.le F'/\Hb H F' H' [c7,(psM bb A),c6,(fP co [N_,(S_ E en U),(S_ N pr a_),(S_ T sl Z),(S_ b5 lens b6)]),[],[],[],aw,ag,an,ap] R/\OZ F' aq ad av aw/\OZ F' E en U ag/\OZ F' N pr a_ an/\OZ F' T sl Z ap/\aA f [(1,(S_ k9 a ld)),(6,(pT b1 0)),(10,(pT bb 0)),(11,(pT co 0)),(12,(S_ aq ad av)),(52,(S_ fd l hd)),(53,(l.length:Int)),(54,(k:Int))]/\mm=l.length-k/\(A.s=(emS l a k).s)/\(EmO A.s)/\(A.s.l.length<=k *11003006)/\(en=(emS l a k).en)/\(pr=(emS l a k).pr)/\(sl=(emS l a k).sl)/\(ad=(emS l a k).ad)/\(en.length=k/\pr.length=k/\sl.length=k/\ad.length=k)/\(k<=l.length)) _ ⟨([]:List Int),([]:List Int),([]:List Int),([]:List (List Int)),0,none,0,[],[],none,0,[],none,0,[],none,0,lf,_,fR,kk,(OS.nil:OS _ N_ ([]:List (List Int)) []),(OS.nil:OS _ N_ ([]:List Int) []),(OS.nil:OS _ N_ ([]:List Int) []),(OS.nil:OS _ N_ ([]:List Int) []),f_,V,(by simp only[aa];rfl),(by simp only[aa];exact⟨V,a0d 0,a1G 0,by decide⟩),(by simp only[aa];exact a0r _),m_,m_,m_,m_,(⟨V,V,V,V⟩),M⟩ ?_;rintro o3 pG pi ⟨en,pr,sl,ad,k,aq,av,aw,ag,E,U,an,N,a_,ap,T,Z,A,b7,bl,ds,ar,ax,ay,a1,f7,rfl,x1,x2,x3,x4,x5,x6,x7,x8,xk⟩ k5;refine au _ f7 (fun _=>?_);clear f7;replace hT:=hT.mono bl;replace ha:=ha.mono bl;replace hl:=hl.mono bl;replace a8:=a8.mono bl;have pK:=x2.sz0;have pL:=x2.sz1;have pJ:=p2.1;refine am 1 V (wT 2 [] 55 55 [] [(55,(decide ((k:Int)<(l.length:Int))))] V fun _=>zd 4 6 (fun l4=>?_) fun l4=>?_)
 ·have r6:=p2.2 k M;have r5:=(dj.snd k M).len;refine ab ?_;obtain⟨dd,hg⟩:=Sv.view (SR.sv hl ds);obtain⟨n6,n7,hJ⟩:=VFnT.fx (hg k);let h8:Value:=(aG [(l.getD k v_).m,(l.getD k v_).r,(sL (cA (dd k) 2) (l.getD k v_).u.length (cK (dd k) 2))])
  refine bK 3 0 56 58 [] [(56,(k:Int)),(58,h8)] (Ha_ (Sv.ix (j:=(k:Int)) (SR.sv hl ds)) (Hl_ 2 (qn 36 0 3 (VFnT.vw (hg k)) V V V V) Hn_)) K_ V fun _=>zn ds V fun l1 pj kl=>sgo 2 4 1 0 [13] [(13,(k:Int))] (Hr_ 5 11 Hn_) kl V V fun oO pm kn=>ae 2 V ?_
  have ii:OZ b7 A.la A.s.l A.lk A.lp:=A.lo.lowI;have ik:OZ b7 A.pa A.s.pl A.pk A.pp:=A.po.lowI;have il:OZ b7 A.ja A.s.js A.jk A.jp:=A.jo.lowI;have oV:=A.gs;let h9:Fp:=(fP l1 [(l.getD k v_).m,(l.getD k v_).r,(sL (cA (dd k) 2) (l.getD k v_).u.length (cK (dd k) 2))])
  have g1:HS _ _ _ [c7,(fP bb [(S_ A.la A.s.l A.lk),(S_ A.pa A.s.pl A.pk),A.s.sz,(S_ A.ja A.s.js A.jk)]),c6,(fP co [N_,(S_ E en U),(S_ N pr a_),(S_ T sl Z),(S_ b5 lens b6)]),[],[],[],aw,ag,an,ap,h9,A.jp,A.pp,A.lp] _:=(HS.cut2 (HS.cut2 (HS.cut2 kn (q:=1) V) (q:=1) V) (q:=1) V)
  refine aC V (cN 6 59 64 [] [(60,(S_ E en U)),(64,A.s.sz)] (Hr_ 1 3 (Hr_ 5 1 Hn_)) g1 V V fun _=>zld [A.s.sz] g1 V (RL.cs ⟨V,M⟩ RL.nl) V fun pB pN mk oz it g2=>zad 8 ax g2 (OS.sv it g2 (i:=15) V) V V V M (kb V) fun hM h1 h5 oD et ko=>sdo 2 67 67 [] [] (Hr_ 9 3 Hn_) ko V V fun oP pn g3=>aW 2 V ?_);refine ab (aS 4 0 68 71 [] [(69,(S_ N pr a_)),(71,(l.getD k v_).m)] (Hr_ 1 3 (Hr_ 3 11 Hn_)) g3 V V fun _=>zlo [(l.getD k v_).m] g3 V (RL.cs ⟨V,M⟩ RL.nl) V fun pC pO mx pq iv g4=>zao 9 ay g4 (OS.sv iv g4 (i:=16) V) V V V M fun hP h2 h6 pu ez kp=>sgo 2 6 74 74 [] [] (Hr_ 7 3 Hn_) kp V V fun oQ pw dt=>ae 2 V ?_);refine aC V ?_;obtain⟨oK,hh⟩:=Sv.view (SR.sv ha dt);obtain⟨oa,ol,oo⟩:=AllT.fx (hh k);refine cN 7 75 81 [] [(76,(S_ T sl Z)),(81,(a.getD k v_).k)] (Hr_ 1 3 (Ha_ (Sv.ix (j:=(k:Int)) (SR.sv ha dt)) (Hl_ 6 (ql 3 2 (hc0 (AllT.vw (hh k))) V V) Hn_))) dt V V fun _=>zld [(a.getD k v_).k] dt V (RL.cs ⟨V,M⟩ RL.nl) V fun pD pP mI oE iz g5=>zad 10 a1 g5 (OS.sv iz g5 (i:=17) V) V V V M (kb V) fun hQ h3 h7 oF e0 kr=>sdo 2 84 84 [] [] (Hr_ 10 3 Hn_) kr V V fun oR lz kx=>aW 1 V ?_
  obtain⟨ch,hE,b4⟩:=lG (P:=fun w9=>Hb H b7 lz [c7,(psM bb w9),c6,(fP co [N_,(sL hM (en++[A.s.sz]).length h1),(sL hP (pr++[(l.getD k v_).m]).length h2),(sL hQ (sl++[(a.getD k v_).k]).length h3),(S_ b5 lens b6)]),[],[],[],aw,h5,h6,h7,h9,[],[],[],mk,mx,mI] R) (⟨⟨A.s.l,A.s.pl,A.s.sz,A.s.js⟩,A.la,A.lk,A.lp,A.pa,A.pk,A.pp,A.ja,A.jk,A.jp,OS.lowI (ii),OS.lowI (ik),OS.lowI (il),M⟩:EmW) (HS.join2 (HS.join2 (HS.join2 kx (q:=1) (i:=14) e_ V V) (q:=1) (i:=13) e_ V V) (q:=1) (i:=12) e_ V V);have a3:=congrArg (·.s) hE;refine aC V ?_;obtain⟨dk,hj⟩:=Sv.view (SR.sv ha b4);obtain⟨ob,hK,hL⟩:=AllT.fx (hj k);refine cN 7 85 91 [] [(85,(S_ aq ad av)),(86,(pT bb 0)),(87,h8),(91,(aG [(sL (cA (dk k) 0) (a.getD k v_).l.length (cK (dk k) 0)),(sL (cA (dk k) 1) (a.getD k v_).p.length (cK (dk k) 1)),(a.getD k v_).k]))] (Hr_ 2 11 (Ha_ (Sv.ix (j:=(k:Int)) (SR.sv ha b4)) (Hl_ 6 (qn 32 0 3 (hc0 (AllT.vw (hj k))) V V V V) Hn_))) b4 V V fun _=>aQ (W:=((psM bb ch).map Prod.fst)) (aP V V V) V V V (ec.fun_c ex (l.getD k v_) (a.getD k v_) ch (HS.callOwn b4.log0 (i:=1) V) M M hJ hK hL M hT (by(simp only[a3,aa];exact x2)) (by(simp only[a3,aa];omega)) X X (ks k)) (kb V) ?_
  rintro _ l0 ⟨hv,hF,o4,k8,o5,b9,a9,rfl,f9,rfl,d1,d2,em⟩;refine⟨HS.didW a9,fun k7 hz=>?_⟩;replace a9:=HS.backOwn b4.log0 (i:=1) V V (fun _ hb=>hb) a9;replace a9:=HS.lg a9 b4 hz;generalize ({l0 with log:=k7}:Heap)=oG at a9⊢;replace et:=et.mono b9;replace ez:=ez.mono b9;replace e0:=e0.mono b9;replace ar:=ar.mono b9;refine zld [(gg (l.getD k v_) (a.getD k v_).l ch.s).2] a9 V (RL.cs ⟨hv,hF,V,f9⟩ RL.nl) V fun pE pQ pV oH i1 g6=>zad 7 ar g6 (OS.sv i1 g6 (i:=18) V) V V V M (kb V) fun hR h4 m0 oI i2 ky=>fa (sL hR (ad++[(gg (l.getD k v_) (a.getD k v_).l ch.s).2]).length h4) V V V (aW 2 V (wU 1 [] 54 54 [95] [(54,(iI ((k:Int)+1)))] (vi (n:=(k:Int)+1)) V fun _=>?_))
  refine k5 _ _ _ ?_ ⟨en++[A.s.sz],pr++[(l.getD k v_).m],sl++[(a.getD k v_).k],ad++[(gg (l.getD k v_) (a.getD k v_).l ch.s).2],k+1,hR,h4,m0,h5,hM,h1,h6,hP,h2,h7,hQ,h3,k8,_,(fT (bl) b9),(HS.sub ky (a01 _ _)),i2,et,ez,e0,f_,V,(by simp only[em,d2,d1,a3,aa,x1];rfl),X,(by refine a0e (by assumption:_<=_+11003006) ?_;simp only[em,d2,d1,a3,aa];omega),(by rw[x4,x1];rfl),(by rw[x5];rfl),(by rw[x6];rfl),(by simp only[em,d2,d1,a3,aa];rw[x7,x1];rfl),(by simp only[a02,a0j];omega),M⟩;omega
 have i3:OZ b7 A.la A.s.l A.lk A.lp:=A.lo.lowI;have oX:OZ b7 A.pa A.s.pl A.pk A.pp:=A.po.lowI;have oY:OZ b7 A.ja A.s.js A.jk A.jp:=A.jo.lowI;have oW:=A.gs;have e4:HS _ _ _ [c7,(fP bb [(S_ A.la A.s.l A.lk),(S_ A.pa A.s.pl A.pk),A.s.sz,(S_ A.ja A.s.js A.jk)]),c6,(fP co [N_,(S_ E en U),(S_ N pr a_),(S_ T sl Z),(S_ b5 lens b6)]),[],[],[],aw,ag,an,ap,A.jp,A.pp,A.lp] _:=(HS.cut2 (HS.cut2 (HS.cut2 ds (q:=1) V) (q:=1) V) (q:=1) V)
 refine aU 1 96 100 [] [(100,(decide ((60000:Int)<A.s.sz)))] (Hr_ 3 1 Hn_) e4 V V fun _=>dy 2 (v:=(decide ((60000:Int)<A.s.sz))) V (by rw[x1,show k=l.length by omega];exact decide_eq_false (by have:=hO.sz;omega)) V V (ab (aS 4 0 103 106 [] [(106,(S_ A.la A.s.l A.lk))] (Hr_ 3 1 Hn_) e4 V V fun _=>?_))
 obtain⟨o6,a7,g7,i4,oZ⟩:=OS.frz i3 e4 (i:=13) V;replace hT:=hT.mono a7;refine zc (ed.enc_c ex A.s.l (HS.call g7) i4 hT (fun q hq=>vld_at (by rw[x1,show k=l.length by omega];exact hO.vld) hq) M) ?_;rintro _ px ⟨f4,hu,pW,pF,o7,bt,e5,rfl,dn,rfl,rfl⟩;replace e5:=HS.back g7 V e5;replace ax:=(ax.mono a7).mono bt;refine bK 5 5 108 109 [15,16,102] [(15,(sL f4 (i0 A.s.l).length hu)),(16,(iI 0))] Hn_ K_ V fun _=>ae 3 V (wT 1 [] 110 111 [] [(111,false)] V fun _=>dy 2 (v:=false) V V V V (sgr 2 114 115 [] [] (Hr_ 2 3 Hn_) e5 V V fun oT py kz=>sgr 1 7 8 [116,117] [(7,(S_ aq ad av)),(8,(iI 0))] (Hr_ 0 3 (Hr_ 2 0 Hn_)) kz V V fun oU pz g8=>?_))
 obtain⟨o8,bz,k0,e1,o0⟩:=OS.frz ax g8 (i:=8) V;replace ay:=((ay.mono a7).mono bt).mono bz;obtain⟨o9,b2,k3,e2,o1⟩:=OS.frz ay k0 (i:=9) V;replace a1:=(((a1.mono a7).mono bt).mono bz).mono b2;obtain⟨pc,b3,k4,e3,o2⟩:=OS.frz a1 k3 (i:=10) V;replace a8:=((((a8.mono a7).mono bt).mono bz).mono b2).mono b3;obtain⟨ow,a4,hB,dl,oc⟩:=OS.frz a8 k4 (i:=2) V;replace ar:=(((((ar.mono a7).mono bt).mono bz).mono b2).mono b3).mono a4;obtain⟨ox,a5,hC,hA,oh⟩:=OS.frz ar hB (i:=7) V;replace dl:=dl.mono a5;replace e1:=(((e1.mono b2).mono b3).mono a4).mono a5;replace e2:=((e2.mono b3).mono a4).mono a5;replace e3:=(e3.mono a4).mono a5;replace dn:=((((dn.mono bz).mono b2).mono b3).mono a4).mono a5;refine ak ⟨.inr V,_,(rC V (l7 V V (h_ g8 V) V) (rT V (rT V rN))),(⟨i0 A.s.l,en,pr,sl,lens⟩:BinT),f4,hu,E,U,N,a_,T,Z,b5,b6,aq,av,ad,0,_,(fT (fT (fT (fT (fT (fT (fT (fT (fT (b8) cc) bl) a7) bt) bz) b2) b3) a4) a5),(HS.forget hC),V,dn,e1,e2,e3,dl,hA,(by((obtain rfl:k=l.length:=by omega);rw[emV_y dj,←x4,←x5,←x6,←x1];try rfl)),(by((obtain rfl:k=l.length:=by omega);rw[emV_y dj,←x7];try rfl)),(by(rw[emV_y dj];try rfl))⟩
end eh
open eh
namespace ei
variable (ex:FuncId) {F:Fz} {H:Heap} {R:List Fp}
theorem remit_c{cv dj}(l:List VFnT){ck c0}(a:List AllT){hd ht}(lens:List Int)(hs:Hb H F H [] R)(hl:Sr F cv l dj)(ha:Sr F ck a c0)(fz:Sr F hd lens ht)(hT:TB 37 tabC F)(uG:lens.length<=1073741824/\∀k j,((l.getD k v_).u.getD j v_).v.length<=1000)(vf:emC l a lens->OkE l a):kKt ex 14 [(sL cv l.length dj),(sL ck a.length c0),(sL hd lens.length ht)] H fun v H'=> ∃(b:BinT),∃k6,∃(oH:Nat),∃k7,∃(oI:Nat),∃k9,∃(oJ:Nat),∃ll,∃(oK:Nat),∃lr,∃(oL:Nat),∃uF,∃(uJ:Nat) (ad:List (List Int)) (e:Int),∃F',F.le F'/\Hb H F' H' [] R/\v= .tuple ⟨[.agg ⟨[sL k6 b.wd.length oH,sL k7 b.en.length oI,sL k9 b.pr.length oJ,sL ll b.sl.length oK,sL lr b.al.length oL]⟩,sL uF ad.length uJ,iI e]⟩/\Sr F' k6 b.wd oH/\Sr F' k7 b.en oI/\Sr F' k9 b.pr oJ/\Sr F' ll b.sl oK/\Sr F' lr b.al oL/\Sr F' uF ad uJ/\b=(emV l a lens).1/\ad=(emV l a lens).2.1/\e=(emV l a lens).2.2:=by
 have qR:=uG.2;refine aB Tryz.func14 V V (am 1 V (ab (zn hs V fun b1 H2 pA=>wTo 2 1 [] 7 8 [] [(7,N_),(8,(iI 0))] V fun _=>ae 3 V ?_)));refine sj 1 21 31 [] [(31,((!(vpV l lens))||((a.length:Int) !=(l.length:Int))))] (Hk_ 2 (jc pA fun _ _ j q=>m8.rprog_c ex l lens q (hl.mono j) (fz.mono j) (hT.mono j) (⟨uG.1,fun k j=>a0e (qR k j) M⟩)) Hn_) pA K_ V fun ul H4 F4 hp pB=>?_
 replace hT:=hT.mono hp;replace ha:=ha.mono hp;replace hl:=hl.mono hp;replace fz:=fz.mono hp;refine zi 1 2 (fun h7=>?_) fun h7=>?_
 ·have c5:=h7;try simp only[BS]at c5
  have b0:=em_0n h7;refine sgr 1 7 8 [32] [(7,N_),(8,(iI 1))] (Hr_ 1 0 Hn_) pB V V fun um H6 pC=>ak ⟨.inr V,_,(rC V (l7 V V (h_ pC V) V) (rT V (rT V rN))),(⟨([]:List U32),([]:List Int),([]:List Int),([]:List Int),([]:List Int)⟩:BinT),none,0,none,0,none,0,none,0,none,0,none,0,([]:List (List Int)),1,_,(hp),(HS.forget pC),V,(SR.nil:SR F4 N_ ([]:List U32)),(SR.nil:SR F4 N_ ([]:List Int)),(SR.nil:SR F4 N_ ([]:List Int)),(SR.nil:SR F4 N_ ([]:List Int)),(SR.nil:SR F4 N_ ([]:List Int)),(SR.nil:SR F4 N_ ([]:List (List Int))),(by(rw[ju b0];try rfl)),(by(rw[ju b0];try rfl)),(by(rw[ju b0];try rfl))⟩
 have oc:=em_0y h7;have uI:=vp_imp oc.1;refine ab (zm (sL hd lens.length ht) ?_);have pD:=HS.snoc pB;refine zao 1 (OS.nil:OS F4 N_ ([]:List Int) []) pD (SR.sv fz pD) V V V M fun a8 k8 p8 H9 f5 j1=>?_
 have f5:OZ F4 a8 lens k8 p8:=f5;refine bK 1 2 35 35 [] [(35,(aG [N_,N_,N_,N_,(sL a8 lens.length k8)]))] Hn_ K_ V fun _=>zn j1 V fun fd tY p2=>sgo 1 4 1 0 [] [] (Hr_ 4 2 Hn_) p2 V V fun tz tZ p3=>ae 2 V (wT 3 [] 1 0 [10] [(10,N_)] V fun _=>wT 2 [] 1 0 [11] [(11,(iI 0))] V fun _=>?_)
 let fi:Fp:=(fP b1 [N_,N_,N_,N_,N_])
 refine aj (fun(mm:Nat) f H'=> ∃(k:Nat),∃F',F4.le F'/\Hb H F' H' [fi,p8,(fP fd [N_,N_,N_,N_,(sL a8 lens.length k8)])] R/\aA f [(0,(sL cv l.length dj)),(1,(sL ck a.length c0)),(6,(pT b1 0)),(9,(pT fd 0)),(10,N_),(11,(k:Int))]/\mm=l.length-k/\(k<=l.length)/\(∀q,q<k->SndP (l.getD q v_) (a.getD q v_))) _ ⟨0,_,fR,p3,f_,V,M,(fun _ h=>absurd h (a0D _))⟩ ?_;rintro tK ug t0 ⟨k,qD,f0,c7,l2,rfl,hk,j1⟩ qq;refine au _ l2 (fun _=>?_);clear l2;replace hT:=hT.mono f0;replace ha:=ha.mono f0;replace hl:=hl.mono f0;replace f5:=f5.mono f0;refine am 2 V (wT 1 [] 36 39 [] [(39,(decide ((k:Int)<(l.length:Int))))] V fun _=>zd 4 6 (fun qJ=>?_) fun qJ=>?_)
 ·refine aC V ?_;obtain⟨lv,oh⟩:=Sv.view (SR.sv hl c7);obtain⟨r0,r1,pn⟩:=VFnT.fx (oh k);obtain⟨hC,ol⟩:=Sv.view (SR.sv ha c7);obtain⟨r2,pq,pu⟩:=AllT.fx (ol k);refine cN 8 42 49 [] [(45,(aG [(l.getD k v_).m,(l.getD k v_).r,(sL (cA (lv k) 2) (l.getD k v_).u.length (cK (lv k) 2))])),(49,(aG [(sL (cA (hC k) 0) (a.getD k v_).l.length (cK (hC k) 0)),(sL (cA (hC k) 1) (a.getD k v_).p.length (cK (hC k) 1)),(a.getD k v_).k]))] (Ha_ (Sv.ix (j:=(k:Int)) (SR.sv hl c7)) (Hl_ 3 (qn 36 0 3 (hc0 (VFnT.vw (oh k))) V V V V) (Ha_ (Sv.ix (j:=(k:Int)) (SR.sv ha c7)) (Hl_ 7 (qn 32 0 3 (hc0 (AllT.vw (ol k))) V V V V) Hn_)))) c7 V V fun _=>aQ (W:=[]) (aP V V V) V V V (nv.rsound_c ex (l.getD k v_) (a.getD k v_) (HS.call c7.log0) M M pn pq pu M hT (fun j=>a0e (qR k j) M)) (kb V) ?_
  rintro _ qF ⟨uv,hv,l0,dd,rfl,rfl⟩;refine⟨Wr.did dd.log,fun qw oX=>?_⟩;replace dd:=HS.back c7.log0 V dd;replace dd:=HS.lg dd c7 oX;generalize ({qF with log:=qw}:Heap)=s3 at dd⊢;refine wfv (v:=(.bool (!(bP (SndP (l.getD k v_) (a.getD k v_)))))) (ne V) (aW 1 V (zi 1 2 (fun hB=>?_) fun hB=>?_))
  ·have qK:=hB;try simp only[BS]at qK
   have b0: ¬emC l a lens:=fun h=>em_sn hB (h.snd k M)
   refine sgr 1 7 8 [52] [(7,N_),(8,(iI 1))] (Hr_ 1 0 Hn_) dd V V fun tA t1 n2=>ak ⟨.inr V,_,(rC V (l7 V V (h_ n2 V) V) (rT V (rT V rN))),(⟨([]:List U32),([]:List Int),([]:List Int),([]:List Int),([]:List Int)⟩:BinT),none,0,none,0,none,0,none,0,none,0,none,0,([]:List (List Int)),1,_,(fT (fT (hp) f0) l0),(HS.forget n2),V,(SR.nil:SR hv N_ ([]:List U32)),(SR.nil:SR hv N_ ([]:List Int)),(SR.nil:SR hv N_ ([]:List Int)),(SR.nil:SR hv N_ ([]:List Int)),(SR.nil:SR hv N_ ([]:List Int)),(SR.nil:SR hv N_ ([]:List (List Int))),(by(rw[ju b0];try rfl)),(by(rw[ju b0];try rfl)),(by(rw[ju b0];try rfl))⟩
  have vh:SndP (l.getD k v_) (a.getD k v_):=em_sy hB;refine wU 1 [] 40 41 [11] [(11,(iI ((k:Int)+1)))] (vi (n:=(k:Int)+1)) V fun _=>?_
  refine qq _ _ _ ?_ ⟨k+1,_,(fT (f0) l0),dd,f_,V,M,(cX j1 vh)⟩;omega
 have ho:emC l a lens:=⟨oc.1,oc.2,fun q hq=>j1 q M⟩
 have hO:=vf ho;refine wT 2 [] 1 0 [12] [(12,(iI 0))] V fun _=>?_
 have p4:=HS.snoc c7;have p5:=HS.snoc p4;have p6:=HS.snoc p5;have p7:=HS.snoc p6;have p9:=HS.snoc p7;refine aj (fun(mm:Nat) f H'=> ∃(W:List U32) (en:List Int) (pr:List Int) (sl:List Int) (ad:List (List Int)) (k:Nat),∃av,∃(aw:Nat),∃ap a_ ax,∃(ay:Nat),∃dk a5,∃(bb:Nat),∃dl a7,∃(bk:Nat),∃dn a9,∃(bl:Nat),∃F',qD.le F'/\Hb H F' H' [fi,p8,(fP fd [(sL ax W.length ay),(sL a5 en.length bb),(sL a7 pr.length bk),(sL a9 sl.length bl),(sL a8 lens.length k8)]),ap,a_,dk,dl,dn] R/\OZ F' av ad aw ap/\OZ F' ax W ay a_/\OZ F' a5 en bb dk/\OZ F' a7 pr bk dl/\OZ F' a9 sl bl dn/\aA f [(0,(sL cv l.length dj)),(1,(sL ck a.length c0)),(6,(pT b1 0)),(9,(pT fd 0)),(10,(sL av ad.length aw)),(12,(k:Int))]/\mm=l.length-k/\(W=i0 (emS l a k).s.l)/\(en=(emS l a k).en)/\(pr=(emS l a k).pr)/\(sl=(emS l a k).sl)/\(ad=(emS l a k).ad)/\(en.length=k/\pr.length=k/\sl.length=k/\ad.length=k)/\(k<=l.length)) _ ⟨([]:List U32),([]:List Int),([]:List Int),([]:List Int),([]:List (List Int)),0,none,0,[],[],none,0,[],none,0,[],none,0,[],none,0,_,fR,p9,(OS.nil:OS _ N_ ([]:List (List Int)) []),(OS.nil:OS _ N_ ([]:List U32) []),(OS.nil:OS _ N_ ([]:List Int) []),(OS.nil:OS _ N_ ([]:List Int) []),(OS.nil:OS _ N_ ([]:List Int) []),f_,V,m_,m_,m_,m_,m_,(⟨V,V,V,V⟩),M⟩ ?_;rintro tL uh t2 ⟨W,en,pr,sl,ad,k,av,aw,ap,a_,ax,ay,dk,a5,bb,dl,a7,bk,dn,a9,bl,hw,gt,h2,ag,aa,b2,b3,b4,l3,rfl,x1,x4,x5,x6,x7,x8,xk⟩ qr;refine au _ l3 (fun _=>?_);clear l3;replace hT:=hT.mono gt;replace ha:=ha.mono gt;replace hl:=hl.mono gt;replace f5:=f5.mono gt;have up:=uI.1;have hz:(W.length:Int)=(emS l a k).s.sz:=by rw[x1];exact lH hO.vld xk
 have yx:=a1J (nN (l:=l) (a:=a) xk) hO.sz;refine am 2 V (wT 1 [] 53 56 [] [(56,(decide ((k:Int)<(l.length:Int))))] V fun _=>zd 4 5 (fun qL=>?_) fun qL=>?_)
 ·have vj:=uI.2 k M;have yv:=(ho.snd k M).len;have vF:=e9 vj;have yo:=vF.nb;have yu:=vF.r;have yp:=vF.m;have nd:=emS_new (k:=k) hO.vld M;refine ab (aS 4 0 59 62 [] [(62,(aG [N_,(W.length:Int),N_,N_,N_]))] (Hr_ 1 2 Hn_) h2 V V fun _=>aT (aN h2 V V) V V ?_);rintro _ t3 _ ⟨a2,rfl,n3,_⟩;refine za (pT a2 0) (ae 2 V (aC V (cN 6 64 69 [] [(65,(sL a5 en.length bb)),(69,(W.length:Int))] (Hr_ 1 2 (Hr_ 5 8 Hn_)) n3 V V fun _=>zld [(W.length:Int)] n3 V (RL.cs ⟨V,M⟩ RL.nl) V fun ub uq g6 s4 pP n4=>zad 5 b2 n4 (OS.sv pP n4 (i:=9) V) V V V M (kb V) fun k3 oE f7 s5 b9 qa=>?_)));refine sdo 2 72 72 [] [] (Hr_ 9 2 Hn_) qa V V fun tB t4 hL=>aW 2 V (aC V ?_)
  obtain⟨tg,oo⟩:=Sv.view (SR.sv hl hL);obtain⟨r3,r4,sx⟩:=VFnT.fx (oo k);refine cN 7 73 79 [] [(74,(sL a7 pr.length bk)),(79,(l.getD k v_).m)] (Hr_ 1 2 (Ha_ (Sv.ix (j:=(k:Int)) (SR.sv hl hL)) (Hl_ 6 (ql 3 0 (hc0 (VFnT.vw (oo k))) V V) Hn_))) hL V V fun _=>zld [(l.getD k v_).m] hL V (RL.cs ⟨V,M⟩ RL.nl) V fun uc ur g7 s6 pQ n5=>zad 6 b3 n5 (OS.sv pQ n5 (i:=10) V) V V V M (kb V) fun k4 oF f8 s7 cc qb=>sdo 2 82 82 [] [] (Hr_ 10 2 Hn_) qb V V fun tC t5 hM=>aW 2 V (aC V ?_)
  obtain⟨th,ow⟩:=Sv.view (SR.sv ha hM);obtain⟨r5,sy,sC⟩:=AllT.fx (ow k);refine cN 7 83 89 [] [(84,(sL a9 sl.length bl)),(89,(a.getD k v_).k)] (Hr_ 1 2 (Ha_ (Sv.ix (j:=(k:Int)) (SR.sv ha hM)) (Hl_ 6 (ql 3 2 (hc0 (AllT.vw (ow k))) V V) Hn_))) hM V V fun _=>zld [(a.getD k v_).k] hM V (RL.cs ⟨V,M⟩ RL.nl) V fun ud us g8 s8 pR n6=>zad 7 b4 n6 (OS.sv pR n6 (i:=11) V) V V V M (kb V) fun k5 oG go s9 ch qc=>sdo 2 92 92 [] [] (Hr_ 10 2 Hn_) qc V V fun tD qG qd=>aW 3 V ?_
  have qe:=HS.snoc qd;have qf:=HS.snoc qe;have qg:=HS.snoc qf;have qh:=HS.snoc qg;obtain⟨qB,kx,qi⟩:=lG (P:=fun w9=>Hb H hw qG [fi,p8,(fP fd [(sL ax W.length ay),(sL k3 (en++[(W.length:Int)]).length oE),(sL k4 (pr++[(l.getD k v_).m]).length oF),(sL k5 (sl++[(a.getD k v_).k]).length oG),(sL a8 lens.length k8)]),ap,a_,f7,f8,go,(psR a2 w9),g6,g7,g8,[],[],[],[]] R) (⟨⟨([]:List InsT),([]:List Int),(W.length:Int),([]:List JmpT)⟩,([]:List Int),none,0,[],none,0,[],none,0,[],none,0,[],OS.lowI ((OS.nil:OS hw N_ ([]:List InsT) [])),OS.lowI ((OS.nil:OS hw N_ ([]:List JmpT) [])),OS.lowI ((OS.nil:OS hw N_ ([]:List Int) [])),OS.lowI ((OS.nil:OS hw N_ ([]:List Int) [])),M⟩:EmR) (HS.join2 (HS.join2 (HS.join2 (HS.join2 qh (q:=8) (i:=12) e_ V V) (q:=8) (i:=13) e_ V V) (q:=8) (i:=14) e_ V V) (q:=8) (i:=15) e_ V V);have N:=congrArg (·.s) kx;have E:=congrArg (·.st) kx;let hu:Fp:=(fP fd [(sL ax W.length ay),(sL k3 (en++[(W.length:Int)]).length oE),(sL k4 (pr++[(l.getD k v_).m]).length oF),(sL k5 (sl++[(a.getD k v_).k]).length oG),(sL a8 lens.length k8)])
  refine wT 2 [] 1 0 [14] [(14,(iI 0))] V fun _=>aj (fun(mm:Nat) f H'=> ∃(i:Nat) (a4:EmR),∃F',hw.le F'/\Hb H F' H' [fi,p8,hu,ap,a_,f7,f8,go,(psR a2 a4),g6,g7,g8,[],[],[],[]] R/\aA f [(0,(sL cv l.length dj)),(1,(sL ck a.length c0)),(6,(pT b1 0)),(9,(pT fd 0)),(10,(sL av ad.length aw)),(12,(k:Int)),(13,(pT a2 0)),(14,(i:Int))]/\mm=(l.getD k v_).m.toNat-i/\(a4.s=parE ⟨[],[],(emS l a k).s.sz,[]⟩ i)/\(EmO a4.s)/\(a4.s.l.length<=i)/\(a4.s.js=[])/\(a4.st=[])/\(i<=(l.getD k v_).m.toNat)) _ ⟨0,qB,_,fR,qi,f_,V,(by simp only[E,N,hz];rfl),(by simp only[E,N];exact⟨V,a0d 0,M,M⟩),(by simp only[E,N];exact a0d 0),(by simp only[E,N]),(by simp only[E,N]),M⟩ ?_
  rintro tM ui t6 ⟨i,a4,qE,b5,hP,l4,rfl,g1,g2,g3,g4,g5,hi⟩ qs;refine au _ l4 (fun _=>?_);clear l4;replace hT:=hT.mono b5;replace ha:=ha.mono b5;replace hl:=hl.mono b5;replace b9:=b9.mono b5;replace cc:=cc.mono b5;replace ch:=ch.mono b5;replace ag:=ag.mono b5;replace aa:=aa.mono b5;refine am 2 V ?_;obtain⟨ti,ox⟩:=Sv.view (SR.sv hl hP);obtain⟨r6,r7,sD⟩:=VFnT.fx (ox k);refine wrp 1 93 99 [] [(99,(decide ((i:Int)<(l.getD k v_).m)))] (Ha_ (Sv.ix (j:=(k:Int)) (SR.sv hl hP)) (Hl_ 5 (ql 3 0 (VFnT.vw (ox k)) V V) Hn_)) K_ V fun _=>zd 3 6 (fun qM=>?_) fun qM=>?_
  ·refine ab (wTo 4 0 [] 102 105 [] [(102,(pT a2 0)),(105,(aG [(iI 37),(i:Int),(iI 0),(iI 0),(i:Int)]))] V fun _=>zlo ([(⟨37,(i:Int),0,0,(i:Int)⟩:InsT)]:List InsT) hP V (RL.cs ⟨V,M,M,M,M,M⟩ RL.nl) V fun ue ut uw t7 pS qj=>?_);obtain⟨tV,l1,n7,p0,tH⟩:=OS.frz pS qj (i:=16) V;replace hT:=hT.mono l1;refine zc (ef.kW ex ([(⟨37,(i:Int),0,0,(i:Int)⟩:InsT)]:List InsT) a4 (HS.callOwn n7 (i:=8) V) p0 hT (EmO.j0 X) (by(simp only[E,N,bT,df,a02,a0j,a07,a04];omega))) ?_;rintro _ t8 ⟨qz,tU,pO,h3,rfl,hm,hn⟩;replace h3:=n7.bO h3;refine ae 2 V (wU 1 [] 100 101 [14] [(14,(iI ((i:Int)+1)))] (vi (n:=(i:Int)+1)) V fun _=>?_);refine qs _ _ _ ?_ ⟨i+1,qz,_,(fT (fT (b5) l1) pO),(HS.sub h3 (a01 _ _)),f_,V,(by simp only[hn,hm,E,N,g1];rfl),(by simp only[hn,hm,E,N];exact EmO.pt _ X),(by simp only[hn,hm,E,N,bT,a0j];omega),(by simp only[hn,hm,E,N,put_js];assumption),(by simp only[hn,hm,E,N];assumption),M⟩;omega
  refine wT 2 [] 1 0 [15] [(15,(iI 0))] V fun _=>aj (fun(mm:Nat) f H'=> ∃(j:Nat) (A:EmR),∃F',qE.le F'/\Hb H F' H' [fi,p8,hu,ap,a_,f7,f8,go,(psR a2 A),g6,g7,g8,[],[],[],[]] R/\aA f [(0,(sL cv l.length dj)),(1,(sL ck a.length c0)),(6,(pT b1 0)),(9,(pT fd 0)),(10,(sL av ad.length aw)),(12,(k:Int)),(13,(pT a2 0)),(15,(j:Int))]/\mm=(l.getD k v_).u.length-j/\(j3 (a.getD k v_).l ((l.getD k v_).u.drop j) (j:Int) (A.s,A.st)=(eZ (l.getD k v_) (a.getD k v_).l ⟨[],[],(emS l a k).s.sz,[]⟩))/\(EmO A.s)/\(A.s.l.length<=6+j *11003)/\(JsO A.s ((l.getD k v_).u.length:Int))/\(A.st.length=j)/\(j<=(l.getD k v_).u.length)) _ ⟨0,a4,_,fR,hP,f_,V,(by rw[g1,g5,show i=(l.getD k v_).m.toNat by omega];rfl),X,M,(fun j hj=>by(rw[g4]at hj;cases hj)),(by rw[g5];rfl),M⟩ ?_
  rintro tN uj t9 ⟨j,A,c9,b6,hQ,l9,rfl,e1,e2,e3,e4,e5,ej⟩ qt;refine au _ l9 (fun _=>?_);clear l9;replace hT:=hT.mono b6;replace ha:=ha.mono b6;replace hl:=hl.mono b6;replace b9:=b9.mono b6;replace cc:=cc.mono b6;replace ch:=ch.mono b6;replace ag:=ag.mono b6;replace aa:=aa.mono b6;obtain⟨wk,pN⟩: ∃x,x=A.s:=⟨_,V⟩
  obtain⟨rF,h4⟩: ∃x,x=A.st:=⟨_,V⟩
  have yw:wk.l.length=A.s.l.length:=by rw[pN]
  have ym:=qR k j;have yr:=e2.sz1;have yq:=e2.sz0;refine am 2 V ?_;obtain⟨tj,oy⟩:=Sv.view (SR.sv hl hQ);obtain⟨r8,r9,sE⟩:=VFnT.fx (oy k);refine wrp 1 108 115 [] [(115,(decide ((j:Int)<((l.getD k v_).u.length:Int))))] (Ha_ (Sv.ix (j:=(k:Int)) (SR.sv hl hQ)) (Hl_ 5 (ql 34 2 (VFnT.vw (oy k)) V V) Hn_)) K_ V fun _=>zd 4 6 (fun qN=>?_) fun qN=>?_
  ·have uH:j<(l.getD k v_).u.length:=M
   have pU:OZ c9 A.la A.s.l A.lk A.lp:=A.lo.lowI;have pV:OZ c9 A.ja A.s.js A.jk A.jp:=A.jo.lowI;have pW:OZ c9 A.pa A.s.pl A.pk A.pp:=A.po.lowI;have pX:OZ c9 A.ta A.st A.tk A.tp:=A.to_.lowI;have tF:=A.gs;have oa:HS _ _ _ [fi,p8,hu,ap,a_,f7,f8,go,(fP a2 [(sL A.la A.s.l.length A.lk),A.s.sz,(sL A.ja A.s.js.length A.jk),(sL A.pa A.s.pl.length A.pk),(sL A.ta A.st.length A.tk)]),g6,g7,g8,[],[],[],[],A.tp,A.pp,A.jp,A.lp] _:=(HS.cut2 (HS.cut2 (HS.cut2 (HS.cut2 hQ (q:=8) V) (q:=8) V) (q:=8) V) (q:=8) V)
   refine aC V (cN 9 118 126 [] [(118,(pT a2 0)),(122,(sL A.ta A.st.length A.tk)),(126,A.s.sz)] (Hr_ 4 8 (Hr_ 8 8 Hn_)) oa V V fun _=>zld [A.s.sz] oa V (RL.cs ⟨V,M⟩ RL.nl) V fun uf uu pE tc pY ob=>zad 16 pX ob (OS.sv pY ob (i:=20) V) V V V M (kb V) fun qI rx ry td pZ qk=>sdo 3 129 130 [] [] (Hr_ 13 8 Hn_) qk V V fun tE qH qm=>aW 3 V ?_);obtain⟨qC,ky,qo⟩:=lG (P:=fun w9=>Hb H c9 qH [fi,p8,hu,ap,a_,f7,f8,go,(psR a2 w9),g6,g7,g8,[],[],[],[],[],[],[],[],pE] R) (⟨⟨A.s.l,A.s.pl,A.s.sz,A.s.js⟩,A.st++[A.s.sz],A.la,A.lk,A.lp,A.ja,A.jk,A.jp,A.pa,A.pk,A.pp,qI,rx,ry,OS.lowI (pU),OS.lowI (pV),OS.lowI (pW),OS.lowI (pZ),M⟩:EmR) (HS.join2 (HS.join2 (HS.join2 (HS.join2 qm (q:=8) (i:=19) e_ V V) (q:=8) (i:=18) e_ V V) (q:=8) (i:=17) e_ V V) (q:=8) (i:=16) e_ V V);have Z:=congrArg (·.s) ky;have T:=congrArg (·.st) ky;refine wT 2 [] 1 0 [16] [(16,(iI 0))] V fun _=>aj (fun(mm:Nat) f H'=> ∃(i:Nat) (a1:EmR),∃F',c9.le F'/\Hb H F' H' [fi,p8,hu,ap,a_,f7,f8,go,(psR a2 a1),g6,g7,g8,[],[],[],[],[],[],[],[],pE] R/\aA f [(0,(sL cv l.length dj)),(1,(sL ck a.length c0)),(6,(pT b1 0)),(9,(pT fd 0)),(10,(sL av ad.length aw)),(12,(k:Int)),(13,(pT a2 0)),(15,(j:Int)),(16,(i:Int))]/\mm=((l.getD k v_).u.getD j v_).v.length-i/\(lD (a.getD k v_).l a1.s (((l.getD k v_).u.getD j v_).v.drop i)=lD (a.getD k v_).l wk ((l.getD k v_).u.getD j v_).v)/\(EmO a1.s)/\(a1.s.l.length<=wk.l.length+i *11)/\(JsO a1.s ((l.getD k v_).u.length:Int))/\(a1.st=rF++[wk.sz])/\(i<=((l.getD k v_).u.getD j v_).v.length)) _ ⟨0,qC,_,fR,qo,f_,V,(by simp only[T,Z,E,N];rw[pN];rfl),(by simp only[T,Z,E,N];exact e2),(by simp only[T,Z,E,N];omega),(by simp only[T,Z,E,N];exact e4),(by simp only[T,Z,E,N];rw[h4,pN]),M⟩ ?_
   rintro tO uk ua ⟨i,a1,tW,hr,U,mk,rfl,i1,i2,i3,i4,i5,ik⟩ qu;refine au _ mk (fun _=>?_);clear mk;replace hT:=hT.mono hr;replace ha:=ha.mono hr;replace hl:=hl.mono hr;refine am 2 V ?_;obtain⟨tl,oz⟩:=Sv.view (SR.sv hl U);obtain⟨qS,qT,hS⟩:=VFnT.fx (oz k);obtain⟨rQ,j2⟩:=Sv.view (SR.sv hS U);obtain⟨qU,qV,qW,qX,rE⟩:=BlkT.fx (j2 j);refine wrp 1 131 142 [] [(142,(decide ((i:Int)<(((l.getD k v_).u.getD j v_).v.length:Int))))] (Ha_ (Sv.ix (j:=(k:Int)) (SR.sv hl U)) (Hl_ 5 (ql 34 2 (VFnT.vw (oz k)) V V) (Ha_ (Sv.ix (j:=(j:Int)) (SR.sv hS U)) (Hl_ 9 (ql 80 0 (BlkT.vw (j2 j)) V V) Hn_)))) K_ V fun _=>zd 3 4 (fun pK=>?_) fun pK=>?_
   ·have vk:=(bD (vF.v j uH i (by show i<((l.getD k v_).u.getD j v_).v.length;omega))).2.2;have yl:=exp_len (v:=((l.getD k v_).u.getD j v_).v.getD i v_) (l:=(a.getD k v_).l);have tI:(((l.getD k v_).u.getD j v_).v.getD i v_).args.length<=6:=vk;refine aC V ?_;obtain⟨rR,ka⟩:=Sv.view (SR.sv hl U);obtain⟨qY,qZ,hV⟩:=VFnT.fx (ka k);obtain⟨rS,kc⟩:=Sv.view (SR.sv hV U);obtain⟨q0,q1,q2,q3,hW⟩:=BlkT.fx (kc j);obtain⟨ib,kd⟩:=Sv.view (SR.sv hW U);obtain⟨q4,q5,q6,q7,q8,oO⟩:=VInT.fx (kd i);obtain⟨g9,kg⟩:=Sv.view (SR.sv ha U);obtain⟨q9,oP,oQ⟩:=AllT.fx (kg k);refine cN 17 145 161 [] [(145,(pT a2 0)),(157,(aG [(((l.getD k v_).u.getD j v_).v.getD i v_).i.op,(((l.getD k v_).u.getD j v_).v.getD i v_).i.a,(((l.getD k v_).u.getD j v_).v.getD i v_).i.b,(((l.getD k v_).u.getD j v_).v.getD i v_).i.c,(((l.getD k v_).u.getD j v_).v.getD i v_).i.n,(sL (cA (ib i) 5) (((l.getD k v_).u.getD j v_).v.getD i v_).args.length (cK (ib i) 5))])),(161,(aG [(sL (cA (g9 k) 0) (a.getD k v_).l.length (cK (g9 k) 0)),(sL (cA (g9 k) 1) (a.getD k v_).p.length (cK (g9 k) 1)),(a.getD k v_).k]))] (Ha_ (Sv.ix (j:=(k:Int)) (SR.sv hl U)) (Hl_ 5 (ql 34 2 (hc0 (VFnT.vw (ka k))) V V) (Ha_ (Sv.ix (j:=(j:Int)) (SR.sv hV U)) (Hl_ 9 (ql 80 0 (hc0 (BlkT.vw (kc j))) V V) (Ha_ (Sv.ix (j:=(i:Int)) (SR.sv hW U)) (Hl_ 12 (qn 88 0 6 (hc0 (VInT.vw (kd i))) V V V V) (Ha_ (Sv.ix (j:=(k:Int)) (SR.sv ha U)) (Hl_ 16 (qn 32 0 3 (hc0 (AllT.vw (kg k))) V V V V) Hn_)))))))) U V V fun _=>aQ (W:=[]) (aP V V V) V V V (xa.rexpand_c ex (((l.getD k v_).u.getD j v_).v.getD i v_) (a.getD k v_) (HS.call U.log0) M M M M M oO oP oQ M hT M) (kb V) ?_
    rintro _ pF ⟨rP,su,tS,tP,sF,ii,ci,rfl,nx,rfl⟩;refine⟨Wr.did ci.log,fun ph mx=>?_⟩;replace ci:=HS.back U.log0 V ci;replace ci:=HS.lg ci U mx;generalize ({pF with log:=ph}:Heap)=rK at ci⊢;obtain⟨sH,il,hK,o1,sd⟩:=OS.frz nx ci (i:=21) V;replace hT:=(hT.mono ii).mono il;refine aQ (W:=((psR a2 a1).map Prod.fst)) (aP V V V) V V V (ef.kW ex (lY (((l.getD k v_).u.getD j v_).v.getD i v_) (a.getD k v_).l) a1 (HS.callOwn hK.log0 (i:=8) V) o1 hT (EmO.j0 X) M) (kb V) ?_;rintro _ pG ⟨pw,sG,oV,co,rfl,f3,f4⟩;refine⟨HS.didW co,fun pi mI=>?_⟩;replace co:=HS.backOwn hK.log0 (i:=8) V V (fun _ hb=>hb) co;replace co:=HS.lg co hK mI;generalize ({pG with log:=pi}:Heap)=rL at co⊢;refine aW 2 V (wU 1 [] 143 144 [16] [(16,(iI ((i:Int)+1)))] (vi (n:=(i:Int)+1)) V fun _=>?_);refine qu _ _ _ ?_ ⟨i+1,pw,_,(fT (fT (fT (hr) ii) il) oV),(HS.sub co (a01 _ _)),f_,V,(ins_go i1 M (by simp only[f4,f3,T,Z,E,N])),(by simp only[f4,f3,T,Z,E,N];exact EmO.pt _ X),(by simp only[f4,f3,T,Z,E,N,bT];omega),(by simp only[f4,f3,T,Z,E,N];exact JsO.pt X _),(by simp only[f4,f3,T,Z,E,N];exact i5),M⟩;omega
   have rv:=ins_end i1 M;refine aC V ?_;obtain⟨rU,ki⟩:=Sv.view (SR.sv hl U);obtain⟨rc,re,hX⟩:=VFnT.fx (ki k);obtain⟨ih,kk⟩:=Sv.view (SR.sv hX U);obtain⟨rf,rg,rh,ri,oR⟩:=BlkT.fx (kk j);obtain⟨hf,kl⟩:=Sv.view (SR.sv ha U);obtain⟨rj,oT,oU⟩:=AllT.fx (kl k);refine cN 15 164 178 [] [(164,(pT a2 0)),(172,(aG [(sL (cA (ih j) 0) ((l.getD k v_).u.getD j v_).v.length (cK (ih j) 0)),((l.getD k v_).u.getD j v_).f,((l.getD k v_).u.getD j v_).r,((l.getD k v_).u.getD j v_).t,((l.getD k v_).u.getD j v_).e])),(176,(aG [(sL (cA (hf k) 0) (a.getD k v_).l.length (cK (hf k) 0)),(sL (cA (hf k) 1) (a.getD k v_).p.length (cK (hf k) 1)),(a.getD k v_).k])),(178,(iI ((j:Int)+1)))] (Ha_ (Sv.ix (j:=(k:Int)) (SR.sv hl U)) (Hl_ 5 (ql 34 2 (hc0 (VFnT.vw (ki k))) V V) (Ha_ (Sv.ix (j:=(j:Int)) (SR.sv hX U)) (Hl_ 8 (qn 82 0 5 (hc0 (BlkT.vw (kk j))) V V V V) (Ha_ (Sv.ix (j:=(k:Int)) (SR.sv ha U)) (Hl_ 12 (qn 32 0 3 (hc0 (AllT.vw (kl k))) V V V V) (Ha_ (vi (n:=(j:Int)+1)) Hn_))))))) U V V fun _=>aQ (W:=((psR a2 a1).map Prod.fst)) (aP V V V) V V V (ef.rtrm_c ex ((l.getD k v_).u.getD j v_) (a.getD k v_) ((j:Int)+1) a1 (HS.callOwn U.log0 (i:=8) V) oR M M M M oT oU M M hT X M (fun h=>(by have h9:=vF.f j uH h;have h8:0<=((l.getD k v_).u.getD j v_).r/\((l.getD k v_).u.getD j v_).r<(l.getD k v_).r:=h9;omega))) (kb V) ?_
   rintro _ pH ⟨px,sI,oW,c6,rfl,ds,dt⟩;refine⟨HS.didW c6,fun pj m0=>?_⟩;replace c6:=HS.backOwn U.log0 (i:=8) V V (fun _ hb=>hb) c6;replace c6:=HS.lg c6 U m0;generalize ({pH with log:=pj}:Heap)=rM at c6⊢;refine aW 2 V (wU 1 [] 116 117 [15] [(15,(iI ((j:Int)+1)))] (vi (n:=(j:Int)+1)) V fun _=>?_);refine qt _ _ _ ?_ ⟨j+1,px,_,(fT (fT (b6) hr) oW),(HS.sub c6 (a01 _ _)),f_,V,(blk_go2 e1 M (by simp only[dt,ds,T,Z,E,N];rw[rv,pN]) (by simp only[dt,ds,T,Z,E,N];rw[i5,h4,pN])),(by simp only[dt,ds,T,Z,E,N];exact EmO.tr X _ _ _),(by simp only[dt,ds,T,Z,E,N];refine a0e (trm_len _ _ _ _) ?_;omega),(by simp only[dt,ds,T,Z,E,N];exact JsO.tr X (tg_of vF M) _ _),(by simp only[dt,ds,T,Z,E,N];rw[i5,a02,a0j,h4,e5]),M⟩;omega
  have he:=fM e1 M;have hR:A.s=(eZ (l.getD k v_) (a.getD k v_).l ⟨[],[],(emS l a k).s.sz,[]⟩).1:=congrArg Prod.fst he;have pz:A.st=(eZ (l.getD k v_) (a.getD k v_).l ⟨[],[],(emS l a k).s.sz,[]⟩).2:=congrArg Prod.snd he;have vd:=fun(j:Nat) (h:j<A.s.js.length)=>js_at e4 (k:=j) h
  have oY:OZ c9 A.la A.s.l A.lk A.lp:=A.lo.lowI;have e6:OZ c9 A.ja A.s.js A.jk A.jp:=A.jo.lowI;have hg:OZ c9 A.pa A.s.pl A.pk A.pp:=A.po.lowI;have b8:OZ c9 A.ta A.st A.tk A.tp:=A.to_.lowI;have sc:=A.gs;have o5:HS _ _ _ [fi,p8,hu,ap,a_,f7,f8,go,(fP a2 [(sL A.la A.s.l.length A.lk),A.s.sz,(sL A.ja A.s.js.length A.jk),(sL A.pa A.s.pl.length A.pk),(sL A.ta A.st.length A.tk)]),g6,g7,g8,[],[],[],[],A.tp,A.pp,A.jp,A.lp] _:=(HS.cut2 (HS.cut2 (HS.cut2 (HS.cut2 hQ (q:=8) V) (q:=8) V) (q:=8) V) (q:=8) V)
  refine wT 2 [] 1 0 [17] [(17,(iI 0))] V fun _=>aj (fun(mm:Nat) f H'=> ∃(lf:List InsT) (j:Nat),∃bt aq,∃(ar:Nat),∃F',c9.le F'/\Hb H F' H' [fi,p8,hu,ap,a_,f7,f8,go,(fP a2 [(sL aq lf.length ar),A.s.sz,(sL A.ja A.s.js.length A.jk),(sL A.pa A.s.pl.length A.pk),(sL A.ta A.st.length A.tk)]),g6,g7,g8,[],[],[],[],A.tp,A.pp,A.jp,bt] R/\OZ F' aq lf ar bt/\aA f [(0,(sL cv l.length dj)),(1,(sL ck a.length c0)),(6,(pT b1 0)),(9,(pT fd 0)),(10,(sL av ad.length aw)),(12,(k:Int)),(13,(pT a2 0)),(17,(j:Int))]/\mm=(eZ (l.getD k v_) (a.getD k v_).l ⟨[],[],(emS l a k).s.sz,[]⟩).1.js.length-j/\(fixE (eZ (l.getD k v_) (a.getD k v_).l ⟨[],[],(emS l a k).s.sz,[]⟩).2 (eZ (l.getD k v_) (a.getD k v_).l ⟨[],[],(emS l a k).s.sz,[]⟩).1.pl lf ((eZ (l.getD k v_) (a.getD k v_).l ⟨[],[],(emS l a k).s.sz,[]⟩).1.js.drop j)=(gg (l.getD k v_) (a.getD k v_).l ⟨[],[],(emS l a k).s.sz,[]⟩).1.l)/\(lf.length=(eZ (l.getD k v_) (a.getD k v_).l ⟨[],[],(emS l a k).s.sz,[]⟩).1.l.length)/\(j<=(eZ (l.getD k v_) (a.getD k v_).l ⟨[],[],(emS l a k).s.sz,[]⟩).1.js.length)) _ ⟨A.s.l,0,A.lp,A.la,A.lk,_,fR,o5,oY,f_,V,(by rw[hR];rfl),(by rw[hR]),M⟩ ?_
  rintro sw ts sW ⟨lf,j,bt,aq,ar,sJ,a3,an,c8,it,rfl,f1,f2,fj⟩ pg;refine au _ it (fun _=>?_);clear it;replace hT:=hT.mono a3;replace e6:=e6.mono a3;replace hg:=hg.mono a3;replace b8:=b8.mono a3;replace b9:=b9.mono a3;replace cc:=cc.mono a3;replace ch:=ch.mono a3;replace ag:=ag.mono a3;replace aa:=aa.mono a3;have rq:=congrArg (fun s=>s.js.length) hR;have rr:=congrArg (fun s=>s.l.length) hR;have un:=e2.pl;have uo:=e2.js
  (try dsimp only at rq rr)
  refine am 2 V (aU 1 180 186 [] [(186,(decide ((j:Int)<(A.s.js.length:Int))))] (Hr_ 4 8 Hn_) an V V fun _=>zd 4 5 (fun pL=>?_) fun pL=>?_)
  ·have yn:=vd j M;obtain⟨rV,kn⟩:=Sv.view (OS.sv e6 an (i:=18) V);obtain⟨rk,rl⟩:=JmpT.fx (kn j);refine aU 1 189 196 [18] [(18,(A.s.js.getD j v_).at_)] (Hr_ 3 8 (Ha_ (Sv.ix (j:=(j:Int)) (OS.sv e6 an (i:=18) V)) (Hl_ 7 (ql 3 0 (JmpT.vw (kn j)) V V) Hn_))) an V V fun _=>aC V ?_
   obtain⟨rW,ko⟩:=Sv.view (OS.sv e6 an (i:=18) V);obtain⟨rm,rn⟩:=JmpT.fx (ko j);obtain⟨rX,kp⟩:=Sv.view (OS.sv b8 an (i:=16) V);have tu:=fI (kp (A.s.js.getD j v_).to.toNat);obtain⟨rY,kr⟩:=Sv.view (OS.sv hg an (i:=17) V);have tw:=fI (kr (A.s.js.getD j v_).at_.toNat);refine cN 29 197 225 [] [(223,(IntKind.i64.wrap ((A.st.getD (A.s.js.getD j v_).to.toNat 0)-(A.s.pl.getD (A.s.js.getD j v_).at_.toNat 0)))),(225,(.pointer (some ⟨sB (sL aq lf.length ar),sO (sL aq lf.length ar)+(A.s.js.getD j v_).at_.toNat *Rp.sz InsT+4,none⟩)))] (Hr_ 3 8 (Hr_ 8 8 (Hr_ 12 8 (Ha_ (Sv.ix (j:=(j:Int)) (OS.sv e6 an (i:=18) V)) (Hl_ 16 (ql 3 1 (hc0 (JmpT.vw (ko j))) V V) (Ha_ (Sv.ix (j:=(A.s.js.getD j v_).to) (OS.sv b8 an (i:=16) V)) (Hl_ 18 (ql 3 0 (hc0 (vI (kp (A.s.js.getD j v_).to.toNat))) V V) (Hr_ 22 8 (Ha_ (Sv.ix (j:=(A.s.js.getD j v_).at_) (OS.sv hg an (i:=17) V)) (Hl_ 25 (ql 3 0 (hc0 (vI (kr (A.s.js.getD j v_).at_.toNat))) V V) (Hw_ 26 (.w) (Ha_ (Sv.ix (j:=(A.s.js.getD j v_).at_) (OS.sv c8 an (i:=19) V)) Hn_)))))))))))) an V V fun _=>gc (id:= .x (bt.map Prod.fst)) (bW (α:=InsT) (j:=(A.s.js.getD j v_).at_.toNat) (off:=4) (q:=19) (⟨(lf.getD (A.s.js.getD j v_).at_.toNat v_).op,(lf.getD (A.s.js.getD j v_).at_.toNat v_).a,(lf.getD (A.s.js.getD j v_).at_.toNat v_).b,(lf.getD (A.s.js.getD j v_).at_.toNat v_).c,IntKind.i64.wrap ((A.st.getD (A.s.js.getD j v_).to.toNat 0)-(A.s.pl.getD (A.s.js.getD j v_).at_.toNat 0))⟩:InsT) c8 an.log0 V V V V V V V V (aO (x:=v_) M) V (by rintro cs ⟨rfl,rz,rA,rB,rD,ux⟩;exact⟨a08 V,⟨V,rz,rA,rB,rD,by exact w64_in _⟩⟩)) V (by rintro _ _ oM ⟨hD,_,hwr⟩;exact dh V V (Wr.did hwr)) (kb V) ?_
   rintro _ pI oM ⟨hD,hh,_⟩ pm nm;replace hh:=HS.lg hh an nm;generalize ({pI with log:=pm}:Heap)=rO at hh⊢;have rt:=OS.len' hD;refine aW 2 V (wU 1 [] 187 188 [17] [(17,(iI ((j:Int)+1)))] (vi (n:=(j:Int)+1)) V fun _=>?_);refine pg _ _ _ ?_ ⟨lf.set (A.s.js.getD j v_).at_.toNat (⟨(lf.getD (A.s.js.getD j v_).at_.toNat v_).op,(lf.getD (A.s.js.getD j v_).at_.toNat v_).a,(lf.getD (A.s.js.getD j v_).at_.toNat v_).b,(lf.getD (A.s.js.getD j v_).at_.toNat v_).c,IntKind.i64.wrap ((A.st.getD (A.s.js.getD j v_).to.toNat 0)-(A.s.pl.getD (A.s.js.getD j v_).at_.toNat 0))⟩:InsT),j+1,oM,aq,ar,_,(a3),(by(simp only[a0f];exact hh)),(OS.norm hD),f_,V,(fix_go f1 M (by rw[←hR,←pz];rfl)),(by rw[a0f];exact f2),M⟩;omega
  have f9:=fix_end f1 M;refine ab (aS 4 0 227 230 [] [(230,(sL aq lf.length ar))] (Hr_ 3 8 Hn_) an V V fun _=>?_);obtain⟨sM,bz,iv,o2,se⟩:=OS.frz c8 an (i:=19) V;replace hT:=hT.mono bz;refine zc (ed.renc_c ex lf (HS.call iv) o2 hT (fun q hq=>vld_at (by rw[f9];exact nd.1) hq) M) ?_;rintro _ sX ⟨h6,kz,tT,tn,sN,b7,f6,rfl,n1,rfl,rfl⟩;replace f6:=HS.back iv V f6;replace b8:=(b8.mono bz).mono b7;replace aa:=(aa.mono bz).mono b7;refine bK 5 5 232 233 [19,20,226] [(19,(sL h6 (i0 lf).length kz))] Hn_ K_ V fun _=>ae 2 V (ab (aS 3 0 234 236 [] [(235,(sL ax W.length ay)),(236,(sL h6 (i0 lf).length kz))] (Hr_ 1 2 Hn_) f6 V V fun _=>zao 4 aa f6 (SR.sv n1 f6) V V V (by(have h9:=enc_le lf;omega)) fun pJ qv qx sY hE o6=>sgo 2 4 238 238 [] [] (Hr_ 5 2 Hn_) o6 V V fun sa sZ iz=>?_))
  refine ae 2 V (ab (aS 5 0 239 243 [] [(239,(sL av ad.length aw)),(243,(sL A.ta A.st.length A.tk))] (Hr_ 4 8 Hn_) iz V V fun _=>?_));obtain⟨sP,dv,o7,o3,sf⟩:=OS.frz b8 iz (i:=16) V;replace hE:=hE.mono dv;replace b9:=((b9.mono bz).mono b7).mono dv;replace cc:=((cc.mono bz).mono b7).mono dv;replace ch:=((ch.mono bz).mono b7).mono dv;replace ag:=((ag.mono bz).mono b7).mono dv;refine zlo [A.st] o7 V (RL.cs ⟨A.ta,A.tk,V,o3⟩ RL.nl) V fun te tJ tR s0 oZ jb=>zao 3 ag jb (OS.sv oZ jb (i:=20) V) V V V M fun k0 oD qy s1 o0 jq=>za (sL k0 (ad++[A.st]).length oD) (ae 2 V (aU 1 246 249 [] [(249,(decide ((60000:Int)<((W++(i0 lf)).length:Int))))] (Hr_ 1 2 Hn_) jq V V fun _=>dy 2 (v:=(decide ((60000:Int)<((W++(i0 lf)).length:Int)))) V (by rw[a02,x1,f9,←a02,←enc_app,←nd.2.1];exact decide_eq_false (by have h9:=lH (k:=k+1) hO.vld M;have h8:=a1J (nN (l:=l) (a:=a) (k:=k+1) (n:=l.length) M) hO.sz;omega)) V V ?_))
  refine wU 1 [] 57 58 [12] [(12,(iI ((k:Int)+1)))] (vi (n:=(k:Int)+1)) V fun _=>?_
  refine qr _ _ _ ?_ ⟨W++(i0 lf),en++[(W.length:Int)],pr++[(l.getD k v_).m],sl++[(a.getD k v_).k],ad++[A.st],k+1,k0,oD,qy,qx,pJ,qv,f7,k3,oE,f8,k4,oF,go,k5,oG,_,(fT (fT (fT (fT (fT (fT (gt) b5) b6) a3) bz) b7) dv),(HS.sub jq (a01 _ _)),o0,hE,b9,cc,ch,f_,V,(by rw[x1,f9,nd.2.1,enc_app]),(by rw[x4,hz];rfl),(by rw[x5];rfl),(by rw[x6];rfl),(by rw[x7,nd.2.2,pz];rfl),(by simp only[a02,a0j];omega),M⟩;omega
 refine sgr 1 7 8 [251,252] [(7,(sL av ad.length aw)),(8,(iI 0))] (Hr_ 0 2 (Hr_ 2 0 Hn_)) h2 V V fun sb s2 jw=>?_
 obtain⟨sQ,d1,o8,hF,sg⟩:=OS.frz aa jw (i:=4) V;replace b2:=b2.mono d1;obtain⟨sR,d2,o9,hG,sk⟩:=OS.frz b2 o8 (i:=5) V;replace b3:=(b3.mono d1).mono d2;obtain⟨sS,em,pc,hH,sn⟩:=OS.frz b3 o9 (i:=6) V;replace b4:=((b4.mono d1).mono d2).mono em;obtain⟨sT,et,pd,hI,sp⟩:=OS.frz b4 pc (i:=7) V;replace f5:=(((f5.mono d1).mono d2).mono em).mono et;obtain⟨sU,ez,pe,hJ,sq⟩:=OS.frz f5 pd (i:=1) V;replace ag:=((((ag.mono d1).mono d2).mono em).mono et).mono ez;obtain⟨sV,e0,pf,o4,ss⟩:=OS.frz ag pe (i:=3) V;replace hF:=((((hF.mono d2).mono em).mono et).mono ez).mono e0;replace hG:=(((hG.mono em).mono et).mono ez).mono e0;replace hH:=((hH.mono et).mono ez).mono e0;replace hI:=(hI.mono ez).mono e0;replace hJ:=hJ.mono e0;refine ak ⟨.inr V,_,(rC V (l7 V V (h_ jw V) V) (rT V (rT V rN))),(⟨W,en,pr,sl,lens⟩:BinT),ax,ay,a5,bb,a7,bk,a9,bl,a8,k8,av,aw,ad,0,_,(fT (fT (fT (fT (fT (fT (fT (fT (hp) f0) gt) d1) d2) em) et) ez) e0),(HS.forget pf),V,hF,hG,hH,hI,hJ,o4,(by((obtain rfl:k=l.length:=by omega);rw[emV_y ho,←x4,←x5,←x6,←x1];try rfl)),(by((obtain rfl:k=l.length:=by omega);rw[emV_y ho,←x7];try rfl)),(by(rw[emV_y ho];try rfl))⟩
end ei
end Go.Proofs.YtgdggmlghemecaaGreatDoor
