/-
The limits that the checker of the program sets. No condition but that names have less than 2^62 bytes.
-/
import Derived.Test.YtkpgbdkkgcdhmaaZNL1
import Derived.Test.YtkpgbdkkgcdhmaaZNDC
noncomputable section
namespace Go.Proofs.Ytkpgbdkkgcdhmaa.dd
open Go.R
set_option maxRecDepth 10000
set_option linter.unusedVariables false
set_option linter.unusedSimpArgs false
variable (ex:FuncId) {F:Fz} {H:Heap} {R:List Fp}
open w3 l1 pt da db dc
theorem lim2_c{A:Option Addr}{E:Nat}(x:ExpT)(d:Int)(hs:HS (.of H []) F H [] R)(U:in64 x.kind)(a_:in64 x.n)(Z:in64 x.op)(al:SR F (sL A x.kids.length E) x.kids):kKt ex 32 [(aG [(iI x.kind),(iI x.n),(tX x.name.b),(iI x.op),(sL A x.kids.length E)]),(iI d)] H fun v H'=> ∃(o:Bool) (F':Fz),Fz.le F F'/\HS (.of H []) F' H' [] R/\v= .bool o/\o=decide (d<=20):=by
 refine aI Try.func32 V V ?_;refine ap 1 V ?_;refine ad ?_;refine ce (b5 hs V V) V V ?_;rintro _ H2 _ ⟨b1,rfl,O,_⟩;refine wa (.bool false) V V V ?_;refine am 2 V ?_;refine wT 1 [] 4 6 [] [(4,(.bool (decide (d<=20))))] V fun _=>?_
 refine ag ⟨.inr V,_,V,(decide (d<=20)),_,fR,(HS.forget O),V,q_⟩
theorem fne_lim{F:Fz}:FnE ex (⟨32,[],[]⟩:FnV) (fun _ d=>decide (d<=20)) F:=
 ⟨⟨_,V,V⟩,fun a k x d a_ H R _ hs A E O U _ Z=>lim2_c ex x d hs A E O U⟩
def psL(E A:Nat)(w:Int×Int):Fp:=[(E,.cells [(iI w.1)] none false),(A,.cells [(iI w.2)] none false)]
def lmN(w:Int×Int)(s:StmT):Int×Int:=(IntKind.i64.wrap (w.1+1),if s.kind=4 then IntKind.i64.wrap (w.2+1) else w.2)
def lmS(w:Int×Int)(s:StmT)(d:Int):(Int×Int)×Bool:=(lmN w s,((decide (d<=20))&&(decide ((lmN w s).1<=200)))&&(decide ((lmN w s).2<=16)))
theorem lim1_c{a_:Option Addr}{ar:Nat}{U:Option Addr}{an:Nat}{O:Option Addr}{al:Nat}{E:Option Addr}{Z:Nat}{ax:Option Addr}{a0:Nat}(s:StmT)(d:Int){bn:Nat}{bl:Nat}(w:Int×Int)(hs:HS (.of H ((psL bn bl w).map Prod.fst)) F H [(psL bn bl w)] R)(a9:in64 s.kind)(ba:in64 s.n)(bb:in64 s.at_.kind)(bf:in64 s.at_.n)(bt:in64 s.at_.op)(bw:SR F (sL ax s.at_.kids.length a0) s.at_.kids)(bF:in64 s.val.kind)(a3:in64 s.val.n)(a4:in64 s.val.op)(a5:SR F (sL E s.val.kids.length Z) s.val.kids)(a6:SR F (sL O s.args.length al) s.args)(a7:SR F (sL U s.thn.length an) s.thn)(a8:SR F (sL a_ s.els.length ar) s.els):kKt ex 30 [(aG [(iI s.kind),(tX s.name.b),(tX s.to.b),(iI s.n),(iI s.at_.kind),(iI s.at_.n),(tX s.at_.name.b),(iI s.at_.op),(sL ax s.at_.kids.length a0),(iI s.val.kind),(iI s.val.n),(tX s.val.name.b),(iI s.val.op),(sL E s.val.kids.length Z),(sL O s.args.length al),(sL U s.thn.length an),(sL a_ s.els.length ar)]),(iI d),(pT bn 0),(pT bl 0)] H fun v H'=> ∃(o:Bool) (w':Int×Int) (F':Fz),Fz.le F F'/\HS (.of H ((psL bn bl w).map Prod.fst)) F' H' [(psL bn bl w')] R/\v= .bool o/\w'=(lmS w s d).1/\o=(lmS w s d).2:=by
 replace hs:HS _ _ _ [(fP bn [(iI w.1)]),(fP bl [(iI w.2)])] _:=hs.reflat V;refine aI Try.func30 V V ?_;refine ap 1 V ?_;refine ad ?_;refine ce (b5 hs V V) V V ?_;rintro _ H2 _ ⟨b1,rfl,a2,_⟩;refine wa (.bool false) V V V ?_;refine am 2 V ?_;refine sgr 3 7 8 [] [] (Hr_ 0 0 (Hw_ 1 (.w) (Hr_ 2 0 Hn_))) a2 V V fun b0 H3 A=>?_
 refine ef 1 9 11 [] [(11,(.bool (s.kind==4)))] (Hr_ 1 2 Hn_) A V V fun _=>?_
 refine ao 0 2 (v:=(s.kind==4)) V V V V (fun c5=>?_) (fun c5=>?_)
 ·try simp only[BS]at c5
  refine sgr 2 12 13 [] [] (Hr_ 0 1 (Hw_ 1 (.w) (Hr_ 2 1 Hn_))) A V V fun b2 H6 aA=>?_
  refine wrp 1 14 23 [6] [(6,(.bool (((decide (d<=20))&&(decide (IntKind.i64.wrap (w.1+1)<=200)))&&(decide (IntKind.i64.wrap (w.2+1)<=16)))))] (ff 3 (fun _=>(ql 3 0 (h_ aA V) V V)) (ff 7 (fun _=>(ql 3 0 (i_ aA V) V V)) Hn_)) V V fun _=>?_
  refine ag ⟨.inr V,_,V,(((decide (d<=20))&&(decide (IntKind.i64.wrap (w.1+1)<=200)))&&(decide (IntKind.i64.wrap (w.2+1)<=16))),(IntKind.i64.wrap (w.1+1),IntKind.i64.wrap (w.2+1)),_,fR,(HS.own2 aA),V,(by first|rfl|(simp[lmS,lmN];done)|simp_all[lmS,lmN]),(by first|rfl|(simp[lmS,lmN];done)|simp_all[lmS,lmN])⟩
 try simp only[BS]at c5
 refine wrp 1 14 23 [6] [(6,(.bool (((decide (d<=20))&&(decide (IntKind.i64.wrap (w.1+1)<=200)))&&(decide (w.2<=16)))))] (ff 3 (fun _=>(ql 3 0 (h_ A V) V V)) (ff 7 (fun _=>(ql 3 0 (i_ A V) V V)) Hn_)) V V fun _=>?_
 refine ag ⟨.inr V,_,V,(((decide (d<=20))&&(decide (IntKind.i64.wrap (w.1+1)<=200)))&&(decide (w.2<=16))),(IntKind.i64.wrap (w.1+1),w.2),_,fR,(HS.own2 A),V,(by first|rfl|(simp[lmS,lmN];done)|simp_all[lmS,lmN]),(by first|rfl|(simp[lmS,lmN];done)|simp_all[lmS,lmN])⟩
theorem fns_lim(bn bl:Nat){F:Fz}:FnS ex (⟨30,[],[(pT bn 0),(pT bl 0)]⟩:FnV) lmS (psL bn bl) F:=⟨⟨_,V,V⟩,fun _ _ _ _ _ _ _ _ _ _ s d w _ _ _ _ hs A E O U a_ Z g6 g7 g8 g9 k0 k1 k2 _ _ _=>lim1_c ex s d w hs A E O U a_ Z g6 g7 g8 g9 k0 k1 k2⟩
def lm0(p:PrgT):Bool:=(decide ((4:Int)<(p.arrs.length:Int)))||(decide ((8:Int)<(p.funs.length:Int)))
def lmA(a:ArrT):Bool:= !((decide (a.len<1))||(decide ((16:Int)<a.len)))
def lmF(g:FunT):Bool:=(((decide ((g.pars.length:Int)<=6))&&(decide ((g.locs.length:Int)<=8)))&&(wsL lmS g.body (0,0) 0).2)&&wxF (fun _ d=>decide (d<=20)) g
def lmP(p:PrgT):Bool:= !lm0 p&&p.arrs.all lmA&&p.funs.all lmF
theorem lm_g{g:FunT}(a:((decide ((g.pars.length:Int)<=6))&&(decide ((g.locs.length:Int)<=8)))=true)(b:((!(wsL lmS g.body (0,0) 0).2)||(!wxF (fun _ d=>decide (d<=20)) g))=false):lmF g=true:=by unfold lmF;rw[a];revert b;cases (wsL lmS g.body (0,0) 0).2<;>cases wxF (fun _ d=>decide (d<=20)) g<;>decide
theorem lm_n1{g:FunT}(a:((decide ((g.pars.length:Int)<=6))&&(decide ((g.locs.length:Int)<=8)))=false):lmF g=false:=by unfold lmF;rw[a];rfl
theorem lm_n2{g:FunT}(a:((decide ((g.pars.length:Int)<=6))&&(decide ((g.locs.length:Int)<=8)))=true)(b:((!(wsL lmS g.body (0,0) 0).2)||(!wxF (fun _ d=>decide (d<=20)) g))=true):lmF g=false:=by unfold lmF;rw[a];revert b;cases (wsL lmS g.body (0,0) 0).2<;>cases wxF (fun _ d=>decide (d<=20)) g<;>decide
theorem limits_c{a3:Option Addr}{ba:Nat}{a2:Option Addr}{a9:Nat}(p:PrgT)(hs:HS (.of H []) F H [] R)(bb:SR F (sL a2 p.arrs.length a9) p.arrs)(ar:SR F (sL a3 p.funs.length ba) p.funs)(hn:NmP p):kKt ex 17 [(aG [(sL a2 p.arrs.length a9),(sL a3 p.funs.length ba)])] H fun v H'=> ∃(o:Bool) (F':Fz),Fz.le F F'/\HS (.of H []) F' H' [] R/\v= .bool o/\o=lmP p:=by
 obtain⟨hh,hj,hl,ds⟩:=hn;refine aI Try.func17 V V ?_;refine ap 1 V ?_;refine ad ?_;refine ce (b5 hs V V) V V ?_;rintro _ H2 _ ⟨b1,rfl,bt,_⟩;refine wa (.bool false) V V V ?_;refine am 3 V ?_;refine ef 1 10 19 [] [(19,(.bool ((decide ((4:Int)<(p.arrs.length:Int)))||(decide ((8:Int)<(p.funs.length:Int))))))] (Hr_ 1 0 (ff 6 (fun _=>(ql 23 1 (h_ bt V) V V)) Hn_)) bt V V fun _=>?_
 refine ao 1 3 (v:=((decide ((4:Int)<(p.arrs.length:Int)))||(decide ((8:Int)<(p.funs.length:Int))))) V V V V (fun bn=>?_) (fun bn=>?_)
 ·have c4:=bn;try simp only[BS]at c4
  have A:lm0 p=true:=bn;refine wT 1 [] 2 2 [] [(2,(.bool false))] V fun _=>?_
  refine ag ⟨.inr V,_,V,false,_,fR,(HS.forget bt),V,(by first|(unfold lmP;rw[A];rfl)|(unfold lmP;rw[A,h1,bF];rfl)|(unfold lmP;rw[A,a_,E,bF];rfl)|(unfold lmP;rw[A,a_,E,ia M];rfl)|(unfold lmP;rw[A,a_,E,gq (p:=lmF) (l:=p.funs) (i:=i) M (by first|exact lm_n1 X|exact lm_n2 X X)];rfl))⟩
 have c4:=bn;try simp only[BS]at c4
 have A:lm0 p=false:=bn;refine ef 2 20 23 [] [(21,(sL a2 p.arrs.length a9)),(22,(iI (p.arrs.length:Int))),(23,(iI 0))] (Hr_ 1 0 Hn_) bt V V fun _=>?_
 let dt:Fp:=(fP b1 [(sL a2 p.arrs.length a9),(sL a3 p.funs.length ba)])
 refine au (fun(mm:Nat) f H'=> ∃(i:Nat) (F':Fz),Fz.le F F'/\HS (Base.of H []) F' H' [dt] R/\aM f [(1,(pT b1 0)),(21,(sL a2 p.arrs.length a9)),(22,(iI (p.arrs.length:Int))),(23,(iI (i:Int)))]/\mm=p.arrs.length-i/\(p.arrs.all lmA=(p.arrs.drop i).all lmA)/\(i<=p.arrs.length)) _ ⟨0,_,fR,bt,(agC V (agC V (agC V (agC V agN)))),V,q_,(by first|assumption|omega|(simp at *;omega))⟩ ?_;rintro g5 f7 H7 ⟨i,F7,a7,bw,dk,rfl,h1,hi⟩ em;refine aF _ dk (fun _=>?_);clear dk;replace bb:=bb.mono a7;replace ar:=ar.mono a7;refine ap 1 V ?_;refine wT 2 [] 24 24 [] [(24,(.bool (decide ((i:Int)<(p.arrs.length:Int)))))] V fun _=>?_
 refine ao 4 6 (v:=(decide ((i:Int)<(p.arrs.length:Int)))) V V V V (fun c9=>?_) (fun c9=>?_)
 ·try simp only[BS]at c9
  refine ad ?_;obtain⟨e3,c6⟩:=Sv.view (SR.sv bb bw);have et:=ArrT.fx (c6 i);refine dG 2 0 25 26 [] [(26,(aG [(tX (p.arrs.getD i default).name.b),(iI (p.arrs.getD i default).len)]))] (Ha_ (Sv.ix (j:=(i:Int)) (SR.sv bb bw) M M) (Hl_ 1 (qn 46 0 2 (ArrT.vw (c6 i) M) V V V V) Hn_)) (by kernel_rfl) V fun _=>?_
  refine zn bw V fun g3 f2 d3=>?_
  refine sgo 1 3 1 0 [] [] (Hr_ 3 1 Hn_) d3 V V fun e4 f3 bf=>?_
  refine am 2 V ?_;refine ef 1 27 34 [] [(34,(.bool ((decide ((p.arrs.getD i default).len<1))||(decide ((16:Int)<(p.arrs.getD i default).len)))))] (Hr_ 1 1 (ff 5 (fun _=>(ql 3 1 (i_ bf V) V V)) Hn_)) bf V V fun _=>?_
  refine ao 1 2 (v:=((decide ((p.arrs.getD i default).len<1))||(decide ((16:Int)<(p.arrs.getD i default).len)))) V V V V (fun a4=>?_) (fun a4=>?_)
  ·have b6:=a4;try simp only[BS]at b6
   have bF:=gq (p:=lmA) (l:=p.arrs) (i:=i) M (by unfold lmA;exact congrArg _ a4);refine wT 1 [] 2 2 [] [(2,(.bool false))] V fun _=>?_
   refine ag ⟨.inr V,_,V,false,_,(a7),(HS.forget bf),V,(by first|(unfold lmP;rw[A];rfl)|(unfold lmP;rw[A,h1,bF];rfl)|(unfold lmP;rw[A,a_,E,bF];rfl)|(unfold lmP;rw[A,a_,E,ia M];rfl)|(unfold lmP;rw[A,a_,E,gq (p:=lmF) (l:=p.funs) (i:=i) M (by first|exact lm_n1 X|exact lm_n2 X X)];rfl))⟩
  have b6:=a4;try simp only[BS]at b6
  have hX:=jh (p:=lmA) (l:=p.arrs) (i:=i) M (by unfold lmA;exact congrArg _ a4);refine wU 1 [] 23 23 [35] [(23,(iI ((i:Int)+1)))] (vi (n:=(i:Int)+1) M) V fun _=>?_
  refine em _ _ _ ?_ ⟨i+1,_,(a7),(HS.sub bf (a06 _ _)),(agC V (agC V (agC V (agC V agN)))),V,(by exact h1.trans hX),(by first|assumption|omega|(simp at *;omega))⟩;omega
 try simp only[BS]at c9
 have a_:p.arrs.all lmA=true:=h1.trans (by rw[ia M];rfl);refine ef 2 36 39 [] [(37,(sL a3 p.funs.length ba)),(38,(iI (p.funs.length:Int))),(39,(iI 0))] (Hr_ 1 0 Hn_) bw V V fun _=>?_
 refine au (fun(mm:Nat) f H'=> ∃(i:Nat) (F':Fz),Fz.le F7 F'/\HS (Base.of H []) F' H' [dt] R/\aM f [(37,(sL a3 p.funs.length ba)),(38,(iI (p.funs.length:Int))),(39,(iI (i:Int)))]/\mm=p.funs.length-i/\(p.funs.all lmF=(p.funs.drop i).all lmF)/\(i<=p.funs.length)) _ ⟨0,_,fR,bw,(agC V (agC V (agC V agN))),V,q_,(by first|assumption|omega|(simp at *;omega))⟩ ?_;rintro fb g4 f4 ⟨i,fi,al,bl,c0,rfl,E,hk⟩ c8;refine aF _ c0 (fun _=>?_);clear c0;replace ar:=ar.mono al;refine ap 1 V ?_;refine wT 2 [] 40 40 [] [(40,(.bool (decide ((i:Int)<(p.funs.length:Int)))))] V fun _=>?_
 refine ao 4 5 (v:=(decide ((i:Int)<(p.funs.length:Int)))) V V V V (fun b8=>?_) (fun b8=>?_)
 ·try simp only[BS]at b8
  have hv:=ds i M;obtain⟨g7,g8,g9,ha,hb,dn,he,hf,hg⟩:=ds i M;refine ad ?_;obtain⟨O,c7⟩:=Sv.view (SR.sv ar bl);obtain⟨ez,e0,e1,aA,a0,Z,a1⟩:=FunT.fx (c7 i);refine dG 2 0 41 42 [] [(42,(aG [(tX (p.funs.getD i default).name.b),(sL (cA (O i) 1) (p.funs.getD i default).pars.length (cK (O i) 1)),(sL (cA (O i) 2) (p.funs.getD i default).locs.length (cK (O i) 2)),(sL (cA (O i) 3) (p.funs.getD i default).body.length (cK (O i) 3)),(iI (p.funs.getD i default).val.kind),(iI (p.funs.getD i default).val.n),(tX (p.funs.getD i default).val.name.b),(iI (p.funs.getD i default).val.op),(sL (cA (O i) 8) (p.funs.getD i default).val.kids.length (cK (O i) 8))]))] (Ha_ (Sv.ix (j:=(i:Int)) (SR.sv ar bl) M M) (Hl_ 1 (qn 42 0 9 (FunT.vw (c7 i) M) V V V V) Hn_)) (by kernel_rfl) V fun _=>?_
  refine zn bl V fun ee f5 d4=>?_
  refine sgo 1 3 1 0 [] [] (Hr_ 3 1 Hn_) d4 V V fun e5 f6 d5=>?_
  refine am 2 V ?_;refine ad ?_;refine zn d5 V fun b3 f8 d6=>?_
  refine zn d6 V fun b4 f9 d7=>?_
  refine sgo 2 2 1 0 [] [] (Hr_ 2 2 (Hr_ 3 3 Hn_)) d7 V V fun e6 gm b0=>?_
  refine am 2 V ?_;refine ef 2 43 52 [9] [(9,(.bool ((decide (((p.funs.getD i default).pars.length:Int)<=6))&&(decide (((p.funs.getD i default).locs.length:Int)<=8)))))] (Hr_ 1 1 (ff 6 (fun _=>(ql 36 2 (i_ b0 V) V V)) Hn_)) b0 V V fun _=>?_
  have ax:HS _ _ _ [_,_,((psL b3 b4) (0,0)),[]] _:=b0.reflat V;refine ad ?_;refine wm (.bool ((decide (((p.funs.getD i default).pars.length:Int)<=6))&&(decide (((p.funs.getD i default).locs.length:Int)<=8)))) V V V ?_;refine wm (.bool ((decide (((p.funs.getD i default).pars.length:Int)<=6))&&(decide (((p.funs.getD i default).locs.length:Int)<=8)))) V V V ?_;refine wo_gsT (v:=((decide (((p.funs.getD i default).pars.length:Int)<=6))&&(decide (((p.funs.getD i default).locs.length:Int)<=8)))) V V (fun U=>?_) (fun U=>?_)
  ·have b2:=U;try simp only[BS]at b2
   refine aP (v:=(pT ee 3)) (ap_fa V V) V V ?_;refine eE V U ?_;refine aP (v:=(sL (cA (O i) 3) (p.funs.getD i default).body.length (cK (O i) 3))) (er (i:=3) V V (i_ ax V) V V) V V ?_;refine eE V U ?_;refine aP (v:=(.func (.func 30) #[] #[(pT b3 0),(pT b4 0)])) (ap_mkf (by kernel_rfl)) V V ?_;refine eE V U ?_;refine ay (aq V V V) V V (db.gL ex (p.funs.getD i default).body (0) (⟨30,[],[(pT b3 0),(pT b4 0)]⟩:FnV) lmS (0,0) (HS.callOwn ax (i:=2) V) Z (fns_lim ex b3 b4) (by first|exact dn|omega) (by first|exact dn|omega)) ?_;rintro _ go ⟨g6,fd,fu,an,a8,rfl,rfl,rfl⟩;replace a8:=ax.bO a8;replace aA:=aA.mono an;replace a0:=a0.mono an;replace Z:=Z.mono an;replace a1:=a1.mono an;refine aP (v:=(.bool ((wsL lmS (p.funs.getD i default).body (0,0) (0:Int)).2))) (gD V U V) V V ?_;refine wa (.bool ((wsL lmS (p.funs.getD i default).body (0,0) (0:Int)).2)) V V V ?_;refine bW ?_;refine ap 2 V ?_;refine sj 1 60 66 [] [(66,(.bool ((!((wsL lmS (p.funs.getD i default).body (0,0) (0:Int)).2))||(!(wxF (fun _ d=>decide (d<=20)) (p.funs.getD i default))))))] (kH 3 (fun _=>(jn a8 42 0 9 1 V V V V V)) (Hk1_ 4 (fun E=>(jc a8 fun _ _ j q=>dc.lT ex (p.funs.getD i default) (⟨32,[],[]⟩:FnV) (fun _ d=>decide (d<=20)) q (aA.mono j) (a0.mono j) (Z.mono j) (by(try simp only[BS]at E);(first|omega|(dsimp only;omega))) (by(try simp only[BS]at E);(first|omega|(dsimp only;omega))) (by(try simp only[BS]at E);(first|omega|(dsimp only;omega))) (a1.mono j) ((fne_lim ex).mono j) (by exact hv))) Hn_)) a8 V V fun e7 g0 f0 ci c3=>?_
   refine ao 1 2 (v:=((!((wsL lmS (p.funs.getD i default).body (0,0) (0:Int)).2))||(!(wxF (fun _ d=>decide (d<=20)) (p.funs.getD i default))))) V V V V (fun a5=>?_) (fun a5=>?_)
   ·have b9:=a5;try simp only[BS]at b9
    have fq:=a5;refine wT 1 [] 2 2 [] [(2,(.bool false))] V fun _=>?_
    refine ag ⟨.inr V,_,V,false,_,(fT (fT (fT (a7) al) an) ci),(HS.forget c3),V,(by first|(unfold lmP;rw[A];rfl)|(unfold lmP;rw[A,h1,bF];rfl)|(unfold lmP;rw[A,a_,E,bF];rfl)|(unfold lmP;rw[A,a_,E,ia M];rfl)|(unfold lmP;rw[A,a_,E,gq (p:=lmF) (l:=p.funs) (i:=i) M (by first|exact lm_n1 X|exact lm_n2 X X)];rfl))⟩
   have b9:=a5;try simp only[BS]at b9
   have fq:=a5;refine wU 1 [] 39 39 [67] [(39,(iI ((i:Int)+1)))] (vi (n:=(i:Int)+1) M) V fun _=>?_
   refine c8 _ _ _ ?_ ⟨i+1,_,(fT (fT (al) an) ci),(HS.sub c3 (a06 _ _)),(agC V (agC V (agC V agN))),V,(by first|exact E.trans (jh (p:=lmF) (l:=p.funs) (i:=i) M (lm_g X X))|exact absurd (show(true||(!(wxF (fun _ d=>decide (d<=20)) (p.funs.getD i default))))=false by assumption) (by simp)),(by first|assumption|omega|(simp at *;omega))⟩;omega
  have b2:=U;try simp only[BS]at b2
  refine kS V U V ?_;refine kS V U V ?_;refine kS V U V ?_;refine aP (v:=(.bool false)) (iE V U V) V V ?_;refine wa (.bool false) V V V ?_;refine bW ?_;refine ap 2 V ?_;refine sj 1 60 66 [] [(66,(.bool (true||(!(wxF (fun _ d=>decide (d<=20)) (p.funs.getD i default))))))] (kH 3 (fun _=>(jn ax 42 0 9 1 V V V V V)) (Hk1_ 4 (fun E=>(jc ax fun _ _ j q=>dc.lT ex (p.funs.getD i default) (⟨32,[],[]⟩:FnV) (fun _ d=>decide (d<=20)) q (aA.mono j) (a0.mono j) (Z.mono j) (by(try simp only[BS]at E);(first|omega|(dsimp only;omega))) (by(try simp only[BS]at E);(first|omega|(dsimp only;omega))) (by(try simp only[BS]at E);(first|omega|(dsimp only;omega))) (a1.mono j) ((fne_lim ex).mono j) (by exact hv))) Hn_)) ax V V fun e8 g2 f1 co c5=>?_
  refine ao 1 2 (v:=(true||(!(wxF (fun _ d=>decide (d<=20)) (p.funs.getD i default))))) V V V V (fun a6=>?_) (fun a6=>?_)
  ·have ch:=a6;try simp only[BS]at ch
   have fq:=a6;refine wT 1 [] 2 2 [] [(2,(.bool false))] V fun _=>?_
   refine ag ⟨.inr V,_,V,false,_,(fT (fT (a7) al) co),(HS.forget c5),V,(by first|(unfold lmP;rw[A];rfl)|(unfold lmP;rw[A,h1,bF];rfl)|(unfold lmP;rw[A,a_,E,bF];rfl)|(unfold lmP;rw[A,a_,E,ia M];rfl)|(unfold lmP;rw[A,a_,E,gq (p:=lmF) (l:=p.funs) (i:=i) M (by first|exact lm_n1 X|exact lm_n2 X X)];rfl))⟩
  have ch:=a6;try simp only[BS]at ch
  have fq:=a6;refine wU 1 [] 39 39 [67] [(39,(iI ((i:Int)+1)))] (vi (n:=(i:Int)+1) M) V fun _=>?_
  refine c8 _ _ _ ?_ ⟨i+1,_,(fT (al) co),(HS.sub c5 (a06 _ _)),(agC V (agC V (agC V agN))),V,(by first|exact E.trans (jh (p:=lmF) (l:=p.funs) (i:=i) M (lm_g X X))|exact absurd (show(true||(!(wxF (fun _ d=>decide (d<=20)) (p.funs.getD i default))))=false by assumption) (by simp)),(by first|assumption|omega|(simp at *;omega))⟩;omega
 try simp only[BS]at b8
 refine wT 1 [] 2 2 [] [(2,(.bool true))] V fun _=>?_
 refine ag ⟨.inr V,_,V,true,_,(fT (a7) al),(HS.forget bl),V,(by first|(unfold lmP;rw[A];rfl)|(unfold lmP;rw[A,h1,bF];rfl)|(unfold lmP;rw[A,a_,E,bF];rfl)|(unfold lmP;rw[A,a_,E,ia M];rfl)|(unfold lmP;rw[A,a_,E,gq (p:=lmF) (l:=p.funs) (i:=i) M (by first|exact lm_n1 X|exact lm_n2 X X)];rfl))⟩
end Go.Proofs.Ytkpgbdkkgcdhmaa.dd
