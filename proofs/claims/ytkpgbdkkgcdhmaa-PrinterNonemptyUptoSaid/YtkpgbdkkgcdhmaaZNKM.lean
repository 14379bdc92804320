/-
Changing one part of an expression or of a statement: how much what comes out dQ. No condition but that the tree dQ less than 10^9 parts.
-/
import Derived.Test.YtkpgbdkkgcdhmaaZNL1
import Derived.Test.YtkpgbdkkgcdhmaaZNBK
import Derived.Test.YtkpgbdkkgcdhmaaZNGA
noncomputable section
namespace Go.Proofs.Ytkpgbdkkgcdhmaa.km
open Go.R
set_option maxRecDepth 10000
set_option linter.unusedVariables false
set_option linter.unusedSimpArgs false
variable (ex:FuncId) {F:Fz} {H:Heap} {R:List Fp}
open w3 l1 pt ca bk ga
theorem gI(n:Int){m:Int}(h:0<m):0<=j6 n m/\j6 n m<m:=lZ h
theorem bx(k n:Int)(nm:Str)(o:Int)(ks:List ExpT):bkE ⟨k,n,nm,o,ks⟩=1+nm.b.length+dm ks:=by rw[bkE]
theorem aT(k:Int)(nm to:Str)(n:Int)(a v:ExpT)(ar:List ExpT)(t e:List StmT):bkS ⟨k,nm,to,n,a,v,ar,t,e⟩=1+nm.b.length+to.b.length+bkE a+bkE v+dm ar+bV t+bV e:=by rw[bkS]
theorem kF(e:ExpT):dm [e]=bkE e:=by rw[dm,dm];rfl
theorem eK(s:StmT):bV [s]=bkS s:=by rw[bV,bV];rfl
theorem eN:dm []=0:=by rw[dm]
theorem eM:bV []=0:=by rw[bV]
theorem bd(e:ExpT):(⟨e.kind,e.n,⟨e.name.b⟩,e.op,e.kids⟩:ExpT)=e:=by cases e;rfl
theorem nm6{k:Nat}:(([⟨[120]⟩,⟨[113]⟩,⟨[97]⟩,⟨[102]⟩,⟨[]⟩,⟨[105,102]⟩]:List Str).getD k default).b.length<=6:=fU e_
theorem nm7{k:Nat}:(([⟨[120]⟩,⟨[113]⟩,⟨[97]⟩,⟨[102]⟩,⟨[]⟩,⟨[116,114,97,112]⟩]:List Str).getD k default).b.length<=6:=fU e_
theorem nm8{k:Nat}:(([⟨[102]⟩,⟨[103]⟩,⟨[104]⟩,⟨[]⟩,⟨[97]⟩]:List Str).getD k default).b.length<=6:=fU e_
theorem vo{p:Prop}(h:p:=by first|omega|assumption|(show _<6;omega)|(show _<(6:Int);omega)|(show _<5;omega)|(show _<(5:Int);omega)|(dsimp only;omega)|exact A|(simp only[a00,a01,a02,a0F];omega)):p:=h
theorem mexpr_c_aux: ∀(fuel:Nat) {A:Option Addr} {E:Nat} (e:ExpT) (cp:Int) (a9:Int) {F:Fz} {H:Heap} {R:List Fp} (hs:HS (.of H []) F H [] R) (d4:in64 e.kind) (d5:in64 e.n) (d6:in64 e.op) (O:SR F (sL A e.kids.length E) e.kids) (l6:in64 cp) (l5:in64 a9) (hn:bkE e<=1000000000),bkE e<fuel->kKt ex 10 [(aG [(iI e.kind),(iI e.n),(tX e.name.b),(iI e.op),(sL A e.kids.length E)]),(iI cp),(iI a9)] H fun v H'=> ∃(x:ExpT) (ba:Option Addr) (c7:Nat) (F':Fz),Fz.le F F'/\HS (.of H []) F' H' [] R/\v= .agg ⟨[iI x.kind,iI x.n,tX x.name.b,iI x.op,sL ba x.kids.length c7]⟩/\in64 x.kind/\in64 x.n/\in64 x.op/\SR F' (sL ba x.kids.length c7) x.kids/\(bkE x<=bkE e+20):=by
 intro fuel;induction fuel with
 |zero=>intros;omega
 |succ fuel ih=>
 intro A E e cp a9 F H R hs d4 d5 d6 O l6 l5 hn mY;have k5:=bk_e e;have k6:=jG e.kids;have p1:=gI cp (m:=9) e_;have p2:=gI (cp.tdiv 9) (m:=8) e_;have p3:=gI a9 (m:=3) e_;have p4:=gI a9 (m:=6) e_;have p5:=gI (cp.tdiv 9) (m:=40) e_;refine aI Try.func10 V V ?_;refine ap 1 V ?_;refine ad ?_;refine ce (b5 hs V V) V V ?_;rintro _ H2 _ ⟨b1,rfl,go,_⟩;refine zn go V fun b3 H4 Z=>?_
 refine am 3 V ?_;have kd:=aB cp 9;refine wU 3 [(1,.o (iI ((ab cp 9:Nat):Int)))] 8 9 [] [(9,(iI ((ab cp 9:Nat):Int)))] (ga.az ex cp 9 H4 (by exact vo)) V fun _=>?_
 refine wT 1 [] 10 11 [] [(10,(.bool (((ab cp 9:Nat):Int)==0)))] V fun _=>?_
 refine ao 0 1 (v:=(((ab cp 9:Nat):Int)==0)) V V V V (fun c8=>?_) (fun c8=>?_)
 ·try simp only[BS]at c8
  have k4:in64 cp->in64 (Int.tdiv cp 9):=fun h=>vq h e_
  have hf:=aB (Int.tdiv cp 9) 8;refine sgr 3 12 16 [] [] (Ha_ (vA (show(9:Int)≠0 from by decide) (vq (a:=cp) (b:=9) (by exact vo) e_)) (Hc_ 2 (ga.az ex (Int.tdiv cp 9) 8 H4 (by exact vo)) (Ha_ (vi (n:=((ab (Int.tdiv cp 9) 8:Nat):Int)-1) (by exact vo)) (Hr_ 5 0 Hn_)))) Z V V fun hl hS ez=>?_
  refine sgr 1 79 79 [] [] (Hr_ 0 0 (Hr_ 1 1 Hn_)) ez V V fun hm hT b6=>?_
  refine ag ⟨.inr V,_,(rC V (dC V V (i_ b6 V) V) rN),(⟨((ab (Int.tdiv cp 9) 8:Nat):Int)-1,e.n,⟨e.name.b⟩,e.op,e.kids⟩:ExpT),A,E,_,fR,(HS.forget b6),V,(by exact vo),(by exact vo),(by exact vo),O,(by first|omega|(simp only[bx];omega)|(simp only[bx];have:=nm6 (k:=ab a9 6);omega)|(simp only[bx];have:=ed (k:=20) (show ab a9 e.kids.length<e.kids.length by omega) X;omega)|(simp only[bx,aT,bg,be,kF,eK,eN,eM,bd,a0e,a01,a02];omega))⟩
 try simp only[BS]at c8
 refine wT 1 [] 17 18 [] [(17,(.bool (((ab cp 9:Nat):Int)==1)))] V fun _=>?_
 refine ao 0 1 (v:=(((ab cp 9:Nat):Int)==1)) V V V V (fun bb=>?_) (fun bb=>?_)
 ·try simp only[BS]at bb
  have hg:=aB a9 3;refine sgr 3 19 21 [] [] (Hc_ 1 (ga.az ex a9 3 H4 (by exact vo)) (Hr_ 3 0 Hn_)) Z V V fun ho hV e0=>?_
  refine sgr 1 79 79 [] [] (Hr_ 0 0 (Hr_ 1 1 Hn_)) e0 V V fun hp hW b8=>?_
  refine ag ⟨.inr V,_,(rC V (dC V V (i_ b8 V) V) rN),(⟨e.kind,((ab a9 3:Nat):Int),⟨e.name.b⟩,e.op,e.kids⟩:ExpT),A,E,_,fR,(HS.forget b8),V,(by exact vo),(by exact vo),(by exact vo),O,(by first|omega|(simp only[bx];omega)|(simp only[bx];have:=nm6 (k:=ab a9 6);omega)|(simp only[bx];have:=ed (k:=20) (show ab a9 e.kids.length<e.kids.length by omega) X;omega)|(simp only[bx,aT,bg,be,kF,eK,eN,eM,bd,a0e,a01,a02];omega))⟩
 try simp only[BS]at bb
 refine wT 1 [] 22 23 [] [(22,(.bool (((ab cp 9:Nat):Int)==2)))] V fun _=>?_
 refine ao 0 1 (v:=(((ab cp 9:Nat):Int)==2)) V V V V (fun bf=>?_) (fun bf=>?_)
 ·try simp only[BS]at bf
  refine ad ?_;refine zlo ([⟨[120]⟩,⟨[113]⟩,⟨[97]⟩,⟨[102]⟩,⟨[]⟩,⟨[105,102]⟩]:List Str) Z V j_ V fun jw ki kt f5 b4 a5=>?_
  have hh:=aB a9 6;obtain⟨he,fi⟩:=Sv.view (OS.sv b4 a5 (i:=2) V);refine sgo 6 1 25 29 [] [] (Hc_ 2 (ga.az ex a9 6 f5 (by exact vo)) (Ha_ (Sv.ix (j:=((ab a9 6:Nat):Int)) (OS.sv b4 a5 (i:=2) V) (by exact vo) (show((ab a9 6:Nat):Int)<(6:Int) from by exact vo)) (Hl_ 4 (ql 9 0 (vS (fi (ab a9 6)) (show ab a9 6<6 from by exact vo)) V V) (Hr_ 6 0 Hn_)))) a5 V V fun hq hX e1=>?_
  refine am 3 V ?_;refine sgr 1 79 79 [] [] (Hr_ 0 0 (Hr_ 1 1 Hn_)) e1 V V fun hr h0 b9=>?_
  refine ag ⟨.inr V,_,(rC V (dC V V (i_ b9 V) V) rN),(⟨e.kind,e.n,⟨(([⟨[120]⟩,⟨[113]⟩,⟨[97]⟩,⟨[102]⟩,⟨[]⟩,⟨[105,102]⟩]:List Str).getD (ab a9 6) default).b⟩,e.op,e.kids⟩:ExpT),A,E,_,fR,(HS.forget b9),V,(by exact vo),(by exact vo),(by exact vo),O,(by first|omega|(simp only[bx];omega)|(simp only[bx];have:=nm6 (k:=ab a9 6);omega)|(simp only[bx];have:=ed (k:=20) (show ab a9 e.kids.length<e.kids.length by omega) X;omega)|(simp only[bx,aT,bg,be,kF,eK,eN,eM,bd,a0e,a01,a02];omega))⟩
 try simp only[BS]at bf
 refine wT 1 [] 30 31 [] [(30,(.bool (((ab cp 9:Nat):Int)==3)))] V fun _=>?_
 refine ao 0 1 (v:=(((ab cp 9:Nat):Int)==3)) V V V V (fun bl=>?_) (fun bl=>?_)
 ·try simp only[BS]at bl
  have hI:in64 cp->in64 (Int.tdiv cp 9):=fun h=>vq h e_
  have hj:=aB (Int.tdiv cp 9) 40;refine sgr 3 32 35 [] [] (Ha_ (vA (show(9:Int)≠0 from by decide) (vq (a:=cp) (b:=9) (by exact vo) e_)) (Hc_ 2 (ga.az ex (Int.tdiv cp 9) 40 H4 (by exact vo)) (Hr_ 4 0 Hn_))) Z V V fun ht h1 e2=>?_
  refine sgr 1 79 79 [] [] (Hr_ 0 0 (Hr_ 1 1 Hn_)) e2 V V fun hu h2 ch=>?_
  refine ag ⟨.inr V,_,(rC V (dC V V (i_ ch V) V) rN),(⟨e.kind,e.n,⟨e.name.b⟩,((ab (Int.tdiv cp 9) 40:Nat):Int),e.kids⟩:ExpT),A,E,_,fR,(HS.forget ch),V,(by exact vo),(by exact vo),(by exact vo),O,(by first|omega|(simp only[bx];omega)|(simp only[bx];have:=nm6 (k:=ab a9 6);omega)|(simp only[bx];have:=ed (k:=20) (show ab a9 e.kids.length<e.kids.length by omega) X;omega)|(simp only[bx,aT,bg,be,kF,eK,eN,eM,bd,a0e,a01,a02];omega))⟩
 try simp only[BS]at bl
 refine wT 1 [] 36 37 [] [(36,(.bool (((ab cp 9:Nat):Int)==4)))] V fun _=>?_
 refine ao 0 1 (v:=(((ab cp 9:Nat):Int)==4)) V V V V (fun bn=>?_) (fun bn=>?_)
 ·try simp only[BS]at bn
  refine ad ?_;refine zlo ([]:List ExpT) Z V RL.nl V fun jA kk kx h3 d7 a6=>?_
  refine du 2 1 39 40 [] [(40,(sL A e.kids.length E))] (Hr_ 2 0 Hn_) a6 V V fun _=>?_
  refine zao 2 d7 a6 (SR.sv O a6) V V V l_ fun f9 g0 g2 h4 a2 e3=>?_
  have a2:OS F (sL f9 e.kids.length g0) e.kids g2:=a2;refine dG 1 4 42 42 [] [(42,(aG [(iI 1),(iI 0),(tX []),(iI 0),(sL none 0 0)]))] Hn_ (by kernel_rfl) V fun _=>?_
  refine zlo ([(⟨1,0,⟨[]⟩,0,([]:List ExpT)⟩:ExpT)]:List ExpT) e3 V (RL.cs (ExpT.mq SR.nil) RL.nl) V fun j1 kl kA h5 d8 ci=>?_
  refine zao 2 a2 ci (OS.sv d8 ci (i:=3) V) V V V l_ fun gm g1 k0 h6 ee e4=>?_
  refine sgo 2 7 45 45 [] [] (Hr_ 8 0 Hn_) e4 V V fun hv h7 e5=>?_
  refine am 3 V ?_;refine sgr 1 79 79 [] [] (Hr_ 0 0 (Hr_ 1 1 Hn_)) e5 V V fun hw h8 e6=>?_
  obtain⟨hQ,d2,co,et,hG⟩:=OS.frz ee e6 (i:=2) V;refine ag ⟨.inr V,_,(rC V (dC V V (i_ co V) V) rN),(⟨e.kind,e.n,⟨e.name.b⟩,e.op,e.kids++([(⟨1,0,⟨[]⟩,0,([]:List ExpT)⟩:ExpT)]:List ExpT)⟩:ExpT),gm,g1,_,(d2),(HS.forget co),V,(by exact vo),(by exact vo),(by exact vo),et,(by first|omega|(simp only[bx];omega)|(simp only[bx];have:=nm6 (k:=ab a9 6);omega)|(simp only[bx];have:=ed (k:=20) (show ab a9 e.kids.length<e.kids.length by omega) X;omega)|(simp only[bx,aT,bg,be,kF,eK,eN,eM,bd,a0e,a01,a02];omega))⟩
 try simp only[BS]at bn
 refine wT 1 [] 46 47 [] [(46,(.bool (((ab cp 9:Nat):Int)==5)))] V fun _=>?_
 refine ao 0 1 (v:=(((ab cp 9:Nat):Int)==5)) V V V V (fun bt=>?_) (fun bt=>?_)
 ·try simp only[BS]at bt
  refine sgr 3 48 48 [] [] (Hr_ 1 0 Hn_) Z V V fun hx h9 e7=>?_
  refine sgr 1 79 79 [] [] (Hr_ 0 0 (Hr_ 1 1 Hn_)) e7 V V fun hy ib c0=>?_
  refine ag ⟨.inr V,_,(rC V (dC V V (i_ c0 V) V) rN),(⟨e.kind,e.n,⟨e.name.b⟩,e.op,([]:List ExpT)⟩:ExpT),none,0,_,fR,(HS.forget c0),V,(by exact vo),(by exact vo),(by exact vo),(SR.nil:SR F (sL none 0 0) ([]:List ExpT)),(by first|omega|(simp only[bx];omega)|(simp only[bx];have:=nm6 (k:=ab a9 6);omega)|(simp only[bx];have:=ed (k:=20) (show ab a9 e.kids.length<e.kids.length by omega) X;omega)|(simp only[bx,aT,bg,be,kF,eK,eN,eM,bd,a0e,a01,a02];omega))⟩
 try simp only[BS]at bt
 refine wT 1 [] 49 50 [] [(49,(.bool (((ab cp 9:Nat):Int)==6)))] V fun _=>?_
 refine ao 1 3 (v:=(((ab cp 9:Nat):Int)==6)) V V V V (fun bw=>?_) (fun bw=>?_)
 ·try simp only[BS]at bw
  refine ef 1 51 54 [] [(54,(.bool (decide ((0:Int)<(e.kids.length:Int)))))] (Hr_ 1 0 Hn_) Z V V fun _=>?_
  refine ao 1 3 (v:=(decide ((0:Int)<(e.kids.length:Int)))) V V V V (fun bF=>?_) (fun bF=>?_)
  ·try simp only[BS]at bF
   have hk:=aB a9 e.kids.length;refine ef 2 55 59 [7] [(7,(iI ((ab a9 e.kids.length:Nat):Int)))] (Hr_ 2 0 (Hc_ 4 (ga.az ex a9 e.kids.length H4 (by exact vo)) Hn_)) Z V V fun _=>?_
   refine ad ?_;refine zlo ([]:List ExpT) Z V RL.nl V fun j2 kn k3 ik em a7=>?_
   refine du 2 1 61 62 [] [(62,(sL A e.kids.length E))] (Hr_ 2 0 Hn_) a7 V V fun _=>?_
   refine zao 2 em a7 (SR.sv O a7) V V V l_ fun ar ax dt it a_ e8=>?_
   have a_:OS F (sL ar e.kids.length ax) e.kids dt:=a_;refine sgo 2 4 64 64 [] [] (Hr_ 5 0 Hn_) e8 V V fun hz i1 an=>?_
   refine am 1 V ?_;refine aH V ?_;obtain⟨b0,c6⟩:=Sv.view (OS.sv a_ an (i:=2) V);obtain⟨g4,g5,g6,ds⟩:=ExpT.fx (c6 (ab a9 e.kids.length));have hJ:in64 cp->in64 (Int.tdiv cp 9):=fun h=>vq h e_
   have hK:in64 a9->in64 (Int.tdiv a9 3):=fun h=>vq h e_
   refine dy 12 65 76 [] [(66,(sL ar e.kids.length ax)),(67,(iI ((ab a9 e.kids.length:Nat):Int))),(72,(aG [(iI (e.kids.getD (ab a9 e.kids.length) default).kind),(iI (e.kids.getD (ab a9 e.kids.length) default).n),(tX (e.kids.getD (ab a9 e.kids.length) default).name.b),(iI (e.kids.getD (ab a9 e.kids.length) default).op),(sL (cA (b0 (ab a9 e.kids.length)) 4) (e.kids.getD (ab a9 e.kids.length) default).kids.length (cK (b0 (ab a9 e.kids.length)) 4))])),(74,(iI (Int.tdiv cp 9))),(76,(iI (Int.tdiv a9 3)))] (Hr_ 1 0 (Hr_ 4 0 (Ha_ (Sv.ix (j:=((ab a9 e.kids.length:Nat):Int)) (OS.sv a_ an (i:=2) V) (by exact vo) (by exact vo)) (Hl_ 7 (qn 40 0 5 (hc0 (ExpT.vw (c6 (ab a9 e.kids.length)) (by exact vo))) V V V V) (Ha_ (vA (show(9:Int)≠0 from by decide) (vq (a:=cp) (b:=9) (by exact vo) e_)) (Ha_ (vA (show(3:Int)≠0 from by decide) (vq (a:=a9) (b:=3) (by exact vo) e_)) Hn_)))))) an V V fun _=>?_
   refine bN (W:=[]) (aq V V V) V V V (ih (e.kids.getD (ab a9 e.kids.length) default) (Int.tdiv cp 9) (Int.tdiv a9 3) (HS.call an.log0) (by exact vo) (by exact vo) (by exact vo) ds (by exact vo) (by exact vo) (by first|omega|(have:=bkEs_at (l:=e.kids) (i:=ab a9 e.kids.length) M;omega)) (by first|omega|(have:=bkEs_at (l:=e.kids) (i:=ab a9 e.kids.length) M;omega))) (⟨.inl V,⟨.inl V,⟨.inl V,⟨.inl V,⟨.inl V,⟨.inl V,⟨.inl V,⟨.inl V,⟨.inl V,⟨.inr trivial,⟨.inr a0l,⟨.inr trivial,trivial⟩⟩⟩⟩⟩⟩⟩⟩⟩⟩⟩⟩) ?_;rintro _ f6 ⟨al,a0,a1,f3,b2,U,rfl,f0,f1,f2,a8,hF⟩;refine⟨Wr.did U.log,fun fq c9=>?_⟩;replace U:=HS.back an.log0 V U;replace U:=HS.lg U an c9;generalize ({f6 with log:=fq}:Heap)=g8 at U⊢;replace a_:=a_.mono b2;refine aK (v:=(.pointer (some ⟨sB (sL ar e.kids.length ax),sO (sL ar e.kids.length ax)+(ab a9 e.kids.length) *Rp.sz ExpT,none⟩))) (id:= .v) (dY (α:=ExpT) (j:=((ab a9 e.kids.length:Nat):Int)) V V V V (OS.sv a_ U.log0 (i:=2) V) (by exact vo) (by exact vo)) V V (cX V) (cG _) ?_;refine fg (id:= .x (dt.map Prod.fst)) (kM (α:=ExpT) (j:=ab a9 e.kids.length) (off:=0) (q:=2) al a_ U.log0 V V V V V V V V (cx (x:=default) (by exact vo)) V (eP (F:=f3) (Y:=al) (cl:=[(iI al.kind),(iI al.n),(tX al.name.b),(iI al.op),(sL a0 al.kids.length a1)]) (ExpT.mkr ⟨a0,a1,V,by exact vo,by exact vo,by exact vo,a8⟩))) V (by rintro _ _ g3 ⟨a3,_,hwr⟩;exact dU V V (Wr.did hwr)) (⟨.inl V,⟨.inl V,⟨.inl V,⟨.inl V,⟨.inl V,⟨.inl V,⟨.inl V,⟨.inl V,⟨.inl V,⟨.inl V,⟨.inl V,⟨.inl V,⟨.inl V,⟨.inl V,trivial⟩⟩⟩⟩⟩⟩⟩⟩⟩⟩⟩⟩⟩⟩) ?_;rintro _ f7 g3 ⟨a3,aA,_⟩ fu dk;replace aA:=HS.lg aA U dk;generalize ({f7 with log:=fu}:Heap)=g9 at aA⊢;have g7:=OS.len' a3;refine bC 3 V ?_;refine sgr 1 79 79 [] [] (Hr_ 0 0 (Hr_ 1 1 Hn_)) aA V V fun hA f8 fb=>?_
   obtain⟨f4,d3,fd,a4,hH⟩:=OS.frz a3 fb (i:=2) V;replace a4:=SR.norm a4;have dn:HS _ _ _ [_,_,_] _:=fd;have c3:HS (Base.of H []) f4 f8 [(fP b1 [(iI e.kind),(iI e.n),(tX e.name.b),(iI e.op),(sL ar (e.kids.set (ab a9 e.kids.length) al).length ax)]),(fP b3 [(iI e.kind),(iI e.n),(tX e.name.b),(iI e.op),(sL ar (e.kids.set (ab a9 e.kids.length) al).length ax)]),[]] R:=by simpa only[a0F,a0e] using dn
   refine ag ⟨.inr V,_,(rC V (dC V V (i_ c3 V) V) rN),(⟨e.kind,e.n,⟨e.name.b⟩,e.op,e.kids.set (ab a9 e.kids.length) al⟩:ExpT),ar,ax,_,(fT (b2) d3),(HS.forget c3),V,(by exact vo),(by exact vo),(by exact vo),a4,(by first|omega|(simp only[bx];omega)|(simp only[bx];have:=nm6 (k:=ab a9 6);omega)|(simp only[bx];have:=ed (k:=20) (show ab a9 e.kids.length<e.kids.length by omega) X;omega)|(simp only[bx,aT,bg,be,kF,eK,eN,eM,bd,a0e,a01,a02];omega))⟩
  try simp only[BS]at bF
  refine sgr 1 79 79 [] [] (Hr_ 0 0 (Hr_ 1 1 Hn_)) Z V V fun hB i2 c4=>?_
  refine ag ⟨.inr V,_,(rC V (dC V V (i_ c4 V) V) rN),e,A,E,_,fR,(HS.forget c4),V,(by exact vo),(by exact vo),(by exact vo),O,(by first|omega|(simp only[bx];omega)|(simp only[bx];have:=nm6 (k:=ab a9 6);omega)|(simp only[bx];have:=ed (k:=20) (show ab a9 e.kids.length<e.kids.length by omega) X;omega)|(simp only[bx,aT,bg,be,kF,eK,eN,eM,bd,a0e,a01,a02];omega))⟩
 try simp only[BS]at bw
 refine sgr 1 79 79 [] [] (Hr_ 0 0 (Hr_ 1 1 Hn_)) Z V V fun hD i3 c5=>?_
 refine ag ⟨.inr V,_,(rC V (dC V V (i_ c5 V) V) rN),e,A,E,_,fR,(HS.forget c5),V,(by exact vo),(by exact vo),(by exact vo),O,(by first|omega|(simp only[bx];omega)|(simp only[bx];have:=nm6 (k:=ab a9 6);omega)|(simp only[bx];have:=ed (k:=20) (show ab a9 e.kids.length<e.kids.length by omega) X;omega)|(simp only[bx,aT,bg,be,kF,eK,eN,eM,bd,a0e,a01,a02];omega))⟩
theorem mj{A:Option Addr}{O:Nat}(e:ExpT)(ax:Int)(ar:Int)(hs:HS (.of H []) F H [] R)(a_:in64 e.kind)(Z:in64 e.n)(al:in64 e.op)(an:SR F (sL A e.kids.length O) e.kids)(a0:in64 ax)(aA:in64 ar)(hn:bkE e<=1000000000):kKt ex 10 [(aG [(iI e.kind),(iI e.n),(tX e.name.b),(iI e.op),(sL A e.kids.length O)]),(iI ax),(iI ar)] H fun v H'=> ∃(x:ExpT) (E:Option Addr) (U:Nat) (F':Fz),Fz.le F F'/\HS (.of H []) F' H' [] R/\v= .agg ⟨[iI x.kind,iI x.n,tX x.name.b,iI x.op,sL E x.kids.length U]⟩/\in64 x.kind/\in64 x.n/\in64 x.op/\SR F' (sL E x.kids.length U) x.kids/\(bkE x<=bkE e+20):=
 mexpr_c_aux ex (bkE e+1) e ax ar hs a_ Z al an a0 aA hn (a1d _)
set_option maxHeartbeats 800000 in
theorem mstmt_c_aux: ∀(fuel:Nat) {al:Option Addr} {ar:Nat} {a1:Option Addr} {a2:Nat} {aA:Option Addr} {a0:Nat} {Z:Option Addr} {an:Nat} {a3:Option Addr} {a4:Nat} (s:StmT) (cv:Int) (cp:Int) {F:Fz} {H:Heap} {R:List Fp} (hs:HS (.of H []) F H [] R) (l3:in64 s.kind) (l4:in64 s.n) (l5:in64 s.at_.kind) (l6:in64 s.at_.n) (l7:in64 s.at_.op) (a_:SR F (sL a3 s.at_.kids.length a4) s.at_.kids) (l8:in64 s.val.kind) (hQ:in64 s.val.n) (hS:in64 s.val.op) (A:SR F (sL Z s.val.kids.length an) s.val.kids) (O:SR F (sL aA s.args.length a0) s.args) (U:SR F (sL a1 s.thn.length a2) s.thn) (E:SR F (sL al s.els.length ar) s.els) (qx:in64 cv) (qw:in64 cp) (hn:bkS s<=1000000000),bkS s<fuel->kKt ex 11 [(aG [(iI s.kind),(tX s.name.b),(tX s.to.b),(iI s.n),(iI s.at_.kind),(iI s.at_.n),(tX s.at_.name.b),(iI s.at_.op),(sL a3 s.at_.kids.length a4),(iI s.val.kind),(iI s.val.n),(tX s.val.name.b),(iI s.val.op),(sL Z s.val.kids.length an),(sL aA s.args.length a0),(sL a1 s.thn.length a2),(sL al s.els.length ar)]),(iI cv),(iI cp)] H fun v H'=> ∃(x:StmT) (gm:Option Addr) (hy:Nat) (e3:Option Addr) (fq:Nat) (e4:Option Addr) (fu:Nat) (e5:Option Addr) (f0:Nat) (e6:Option Addr) (f1:Nat) (F':Fz),Fz.le F F'/\HS (.of H []) F' H' [] R/\v= .agg ⟨[iI x.kind,tX x.name.b,tX x.to.b,iI x.n,iI x.at_.kind,iI x.at_.n,tX x.at_.name.b,iI x.at_.op,sL gm x.at_.kids.length hy,iI x.val.kind,iI x.val.n,tX x.val.name.b,iI x.val.op,sL e3 x.val.kids.length fq,sL e4 x.args.length fu,sL e5 x.thn.length f0,sL e6 x.els.length f1]⟩/\in64 x.kind/\in64 x.n/\in64 x.at_.kind/\in64 x.at_.n/\in64 x.at_.op/\in64 x.val.kind/\in64 x.val.n/\in64 x.val.op/\SR F' (sL gm x.at_.kids.length hy) x.at_.kids/\SR F' (sL e3 x.val.kids.length fq) x.val.kids/\SR F' (sL e4 x.args.length fu) x.args/\SR F' (sL e5 x.thn.length f0) x.thn/\SR F' (sL e6 x.els.length f1) x.els/\(bkS x<=bkS s+20):=by
 intro fuel;induction fuel with
 |zero=>intros;omega
 |succ fuel ih=>
 intro al ar a1 a2 aA a0 Z an a3 a4 s cv cp F H R hs l3 l4 l5 l6 l7 a_ l8 hQ hS A O U E qx qw hn q4;have pO:=bk_s s;have pP:=dF s.thn;have pQ:=dF s.els;have pR:=jG s.args;have p1:=gI cv (m:=13) e_;have p2:=gI (cv.tdiv 13) (m:=10) e_;have p3:=gI cp (m:=3) e_;have p4:=gI cp (m:=6) e_;have p5:=gI cp (m:=5) e_;refine aI Try.func11 V V ?_;refine ap 1 V ?_;refine ad ?_;refine ce (b5 hs V V) V V ?_;rintro _ H2 _ ⟨b1,rfl,nb,_⟩;refine zn nb V fun b3 H4 a5=>?_
 refine am 3 V ?_;have pm:=aB cv 13;refine wU 3 [(1,.o (iI ((ab cv 13:Nat):Int)))] 8 9 [] [(9,(iI ((ab cv 13:Nat):Int)))] (ga.az ex cv 13 H4 (by exact vo)) V fun _=>?_
 refine wT 1 [] 10 11 [] [(10,(.bool (((ab cv 13:Nat):Int)==0)))] V fun _=>?_
 refine ao 0 1 (v:=(((ab cv 13:Nat):Int)==0)) V V V V (fun c8=>?_) (fun c8=>?_)
 ·try simp only[BS]at c8
  have pN:in64 cv->in64 (Int.tdiv cv 13):=fun h=>vq h e_
  have nV:=aB (Int.tdiv cv 13) 10;refine sgr 3 12 16 [] [] (Ha_ (vA (show(13:Int)≠0 from by decide) (vq (a:=cv) (b:=13) (by exact vo) e_)) (Hc_ 2 (ga.az ex (Int.tdiv cv 13) 10 H4 (by exact vo)) (Ha_ (vi (n:=((ab (Int.tdiv cv 13) 10:Nat):Int)-1) (by exact vo)) (Hr_ 5 0 Hn_)))) a5 V V fun n1 oB kn=>?_
  refine sgr 1 124 124 [] [] (Hr_ 0 0 (Hr_ 1 1 Hn_)) kn V V fun n2 oC hf=>?_
  refine ag ⟨.inr V,_,(rC V (dC V V (i_ hf V) V) rN),(⟨((ab (Int.tdiv cv 13) 10:Nat):Int)-1,⟨s.name.b⟩,⟨s.to.b⟩,s.n,(⟨s.at_.kind,s.at_.n,⟨s.at_.name.b⟩,s.at_.op,s.at_.kids⟩:ExpT),(⟨s.val.kind,s.val.n,⟨s.val.name.b⟩,s.val.op,s.val.kids⟩:ExpT),s.args,s.thn,s.els⟩:StmT),a3,a4,Z,an,aA,a0,a1,a2,al,ar,_,fR,(HS.forget hf),V,(by exact vo),(by exact vo),(by exact vo),(by exact vo),(by exact vo),(by exact vo),(by exact vo),(by exact vo),a_,A,O,U,E,(by first|omega|(simp only[aT,bd];omega)|(simp only[aT,bd];have:=nm7 (k:=ab cp 6);have:=nm8 (k:=ab cp 5);omega)|(simp only[aT,bd];have:=bU (k:=20) (show ab cp s.thn.length<s.thn.length by omega) X;omega)|(simp only[bx,aT,bg,be,kF,eK,eN,eM,bd,a0e,a01,a02];omega))⟩
 try simp only[BS]at c8
 refine wT 1 [] 17 18 [] [(17,(.bool (((ab cv 13:Nat):Int)==1)))] V fun _=>?_
 refine ao 0 1 (v:=(((ab cv 13:Nat):Int)==1)) V V V V (fun go=>?_) (fun go=>?_)
 ·try simp only[BS]at go
  refine ad ?_;refine zlo ([⟨[120]⟩,⟨[113]⟩,⟨[97]⟩,⟨[102]⟩,⟨[]⟩,⟨[116,114,97,112]⟩]:List Str) a5 V j_ V fun o5 po pB mU ha d8=>?_
  have nW:=aB cp 6;obtain⟨nR,ma⟩:=Sv.view (OS.sv ha d8 (i:=2) V);refine sgo 6 1 20 24 [] [] (Hc_ 2 (ga.az ex cp 6 mU (by exact vo)) (Ha_ (Sv.ix (j:=((ab cp 6:Nat):Int)) (OS.sv ha d8 (i:=2) V) (by exact vo) (show((ab cp 6:Nat):Int)<(6:Int) from by exact vo)) (Hl_ 4 (ql 9 0 (vS (ma (ab cp 6)) (show ab cp 6<6 from by exact vo)) V V) (Hr_ 6 0 Hn_)))) d8 V V fun n3 oD kt=>?_
  refine am 3 V ?_;refine sgr 1 124 124 [] [] (Hr_ 0 0 (Hr_ 1 1 Hn_)) kt V V fun n4 oE hh=>?_
  refine ag ⟨.inr V,_,(rC V (dC V V (i_ hh V) V) rN),(⟨s.kind,⟨(([⟨[120]⟩,⟨[113]⟩,⟨[97]⟩,⟨[102]⟩,⟨[]⟩,⟨[116,114,97,112]⟩]:List Str).getD (ab cp 6) default).b⟩,⟨s.to.b⟩,s.n,(⟨s.at_.kind,s.at_.n,⟨s.at_.name.b⟩,s.at_.op,s.at_.kids⟩:ExpT),(⟨s.val.kind,s.val.n,⟨s.val.name.b⟩,s.val.op,s.val.kids⟩:ExpT),s.args,s.thn,s.els⟩:StmT),a3,a4,Z,an,aA,a0,a1,a2,al,ar,_,fR,(HS.forget hh),V,(by exact vo),(by exact vo),(by exact vo),(by exact vo),(by exact vo),(by exact vo),(by exact vo),(by exact vo),a_,A,O,U,E,(by first|omega|(simp only[aT,bd];omega)|(simp only[aT,bd];have:=nm7 (k:=ab cp 6);have:=nm8 (k:=ab cp 5);omega)|(simp only[aT,bd];have:=bU (k:=20) (show ab cp s.thn.length<s.thn.length by omega) X;omega)|(simp only[bx,aT,bg,be,kF,eK,eN,eM,bd,a0e,a01,a02];omega))⟩
 try simp only[BS]at go
 refine wT 1 [] 25 26 [] [(25,(.bool (((ab cv 13:Nat):Int)==2)))] V fun _=>?_
 refine ao 0 1 (v:=(((ab cv 13:Nat):Int)==2)) V V V V (fun g0=>?_) (fun g0=>?_)
 ·try simp only[BS]at g0
  refine ad ?_;refine zlo ([⟨[102]⟩,⟨[103]⟩,⟨[104]⟩,⟨[]⟩,⟨[97]⟩]:List Str) a5 V j_ V fun o6 pq pC mV hb ee=>?_
  have nX:=aB cp 5;obtain⟨nT,mf⟩:=Sv.view (OS.sv hb ee (i:=2) V);refine sgo 6 1 28 32 [] [] (Hc_ 2 (ga.az ex cp 5 mV (by exact vo)) (Ha_ (Sv.ix (j:=((ab cp 5:Nat):Int)) (OS.sv hb ee (i:=2) V) (by exact vo) (show((ab cp 5:Nat):Int)<(5:Int) from by exact vo)) (Hl_ 4 (ql 9 0 (vS (mf (ab cp 5)) (show ab cp 5<5 from by exact vo)) V V) (Hr_ 6 0 Hn_)))) ee V V fun n5 oF kx=>?_
  refine am 3 V ?_;refine sgr 1 124 124 [] [] (Hr_ 0 0 (Hr_ 1 1 Hn_)) kx V V fun n6 oG hj=>?_
  refine ag ⟨.inr V,_,(rC V (dC V V (i_ hj V) V) rN),(⟨s.kind,⟨s.name.b⟩,⟨(([⟨[102]⟩,⟨[103]⟩,⟨[104]⟩,⟨[]⟩,⟨[97]⟩]:List Str).getD (ab cp 5) default).b⟩,s.n,(⟨s.at_.kind,s.at_.n,⟨s.at_.name.b⟩,s.at_.op,s.at_.kids⟩:ExpT),(⟨s.val.kind,s.val.n,⟨s.val.name.b⟩,s.val.op,s.val.kids⟩:ExpT),s.args,s.thn,s.els⟩:StmT),a3,a4,Z,an,aA,a0,a1,a2,al,ar,_,fR,(HS.forget hj),V,(by exact vo),(by exact vo),(by exact vo),(by exact vo),(by exact vo),(by exact vo),(by exact vo),(by exact vo),a_,A,O,U,E,(by first|omega|(simp only[aT,bd];omega)|(simp only[aT,bd];have:=nm7 (k:=ab cp 6);have:=nm8 (k:=ab cp 5);omega)|(simp only[aT,bd];have:=bU (k:=20) (show ab cp s.thn.length<s.thn.length by omega) X;omega)|(simp only[bx,aT,bg,be,kF,eK,eN,eM,bd,a0e,a01,a02];omega))⟩
 try simp only[BS]at g0
 refine wT 1 [] 33 34 [] [(33,(.bool (((ab cv 13:Nat):Int)==3)))] V fun _=>?_
 refine ao 0 1 (v:=(((ab cv 13:Nat):Int)==3)) V V V V (fun g1=>?_) (fun g1=>?_)
 ·try simp only[BS]at g1
  refine ad ?_;refine zlo ([0,1,(-1),1000000,1000001]:List Int) a5 V (RL.cs ⟨V,by exact vo⟩ (RL.cs ⟨V,by exact vo⟩ (RL.cs ⟨V,by exact vo⟩ (RL.cs ⟨V,by exact vo⟩ (RL.cs ⟨V,by exact vo⟩ RL.nl))))) V fun o7 pr pD mW he em=>?_
  have nY:=aB cp 5;obtain⟨nU,hv⟩:=Sv.view (OS.sv he em (i:=2) V);have pn:=fI (hv (ab cp 5));refine sgo 6 1 36 40 [] [] (Hc_ 2 (ga.az ex cp 5 mW (by exact vo)) (Ha_ (Sv.ix (j:=((ab cp 5:Nat):Int)) (OS.sv he em (i:=2) V) (by exact vo) (show((ab cp 5:Nat):Int)<(5:Int) from by exact vo)) (Hl_ 4 (ql 3 0 (vI (hv (ab cp 5)) (show ab cp 5<5 from by exact vo)) V V) (Hr_ 6 0 Hn_)))) em V V fun n7 oH kA=>?_
  refine am 3 V ?_;refine sgr 1 124 124 [] [] (Hr_ 0 0 (Hr_ 1 1 Hn_)) kA V V fun n8 oI hk=>?_
  refine ag ⟨.inr V,_,(rC V (dC V V (i_ hk V) V) rN),(⟨s.kind,⟨s.name.b⟩,⟨s.to.b⟩,(([0,1,(-1),1000000,1000001]:List Int).getD (ab cp 5) 0),(⟨s.at_.kind,s.at_.n,⟨s.at_.name.b⟩,s.at_.op,s.at_.kids⟩:ExpT),(⟨s.val.kind,s.val.n,⟨s.val.name.b⟩,s.val.op,s.val.kids⟩:ExpT),s.args,s.thn,s.els⟩:StmT),a3,a4,Z,an,aA,a0,a1,a2,al,ar,_,fR,(HS.forget hk),V,(by exact vo),(by exact vo),(by exact vo),(by exact vo),(by exact vo),(by exact vo),(by exact vo),(by exact vo),a_,A,O,U,E,(by first|omega|(simp only[aT,bd];omega)|(simp only[aT,bd];have:=nm7 (k:=ab cp 6);have:=nm8 (k:=ab cp 5);omega)|(simp only[aT,bd];have:=bU (k:=20) (show ab cp s.thn.length<s.thn.length by omega) X;omega)|(simp only[bx,aT,bg,be,kF,eK,eN,eM,bd,a0e,a01,a02];omega))⟩
 try simp only[BS]at g1
 refine wT 1 [] 41 42 [] [(41,(.bool (((ab cv 13:Nat):Int)==4)))] V fun _=>?_
 refine ao 0 1 (v:=(((ab cv 13:Nat):Int)==4)) V V V V (fun g2=>?_) (fun g2=>?_)
 ·try simp only[BS]at g2
  refine ad ?_;have ov:in64 cv->in64 (Int.tdiv cv 13):=fun h=>vq h e_
  refine du 5 0 43 47 [] [(44,(aG [(iI s.at_.kind),(iI s.at_.n),(tX s.at_.name.b),(iI s.at_.op),(sL a3 s.at_.kids.length a4)])),(46,(iI (Int.tdiv cv 13))),(47,(iI cp))] (Hr_ 1 0 (Ha_ (vA (show(13:Int)≠0 from by decide) (vq (a:=cv) (b:=13) (by exact vo) e_)) Hn_)) a5 V V fun _=>?_
  refine ay (aq V V V) V V (mj ex s.at_ (Int.tdiv cv 13) cp (HS.call a5) (by exact vo) (by exact vo) (by exact vo) a_ (by exact vo) (by exact vo) M) ?_;rintro _ oJ ⟨dt,f8,hw,ox,b4,et,rfl,mp,ms,mv,f2,ol⟩;replace et:=HS.back a5 V et;replace A:=A.mono b4;replace O:=O.mono b4;replace U:=U.mono b4;replace E:=E.mono b4;refine sgo 2 6 49 49 [] [] (Hr_ 7 0 Hn_) et V V fun n9 oK k0=>?_
  refine am 3 V ?_;refine sgr 1 124 124 [] [] (Hr_ 0 0 (Hr_ 1 1 Hn_)) k0 V V fun oa oL hl=>?_
  refine ag ⟨.inr V,_,(rC V (dC V V (i_ hl V) V) rN),(⟨s.kind,⟨s.name.b⟩,⟨s.to.b⟩,s.n,(⟨dt.kind,dt.n,⟨dt.name.b⟩,dt.op,dt.kids⟩:ExpT),(⟨s.val.kind,s.val.n,⟨s.val.name.b⟩,s.val.op,s.val.kids⟩:ExpT),s.args,s.thn,s.els⟩:StmT),f8,hw,Z,an,aA,a0,a1,a2,al,ar,_,(b4),(HS.forget hl),V,(by exact vo),(by exact vo),(by exact vo),(by exact vo),(by exact vo),(by exact vo),(by exact vo),(by exact vo),f2,A,O,U,E,(by first|omega|(simp only[aT,bd];omega)|(simp only[aT,bd];have:=nm7 (k:=ab cp 6);have:=nm8 (k:=ab cp 5);omega)|(simp only[aT,bd];have:=bU (k:=20) (show ab cp s.thn.length<s.thn.length by omega) X;omega)|(simp only[bx,aT,bg,be,kF,eK,eN,eM,bd,a0e,a01,a02];omega))⟩
 try simp only[BS]at g2
 refine wT 1 [] 50 51 [] [(50,(.bool (((ab cv 13:Nat):Int)==5)))] V fun _=>?_
 refine ao 0 1 (v:=(((ab cv 13:Nat):Int)==5)) V V V V (fun g3=>?_) (fun g3=>?_)
 ·try simp only[BS]at g3
  refine ad ?_;have ow:in64 cv->in64 (Int.tdiv cv 13):=fun h=>vq h e_
  refine du 5 0 52 56 [] [(53,(aG [(iI s.val.kind),(iI s.val.n),(tX s.val.name.b),(iI s.val.op),(sL Z s.val.kids.length an)])),(55,(iI (Int.tdiv cv 13))),(56,(iI cp))] (Hr_ 1 0 (Ha_ (vA (show(13:Int)≠0 from by decide) (vq (a:=cv) (b:=13) (by exact vo) e_)) Hn_)) a5 V V fun _=>?_
  refine ay (aq V V V) V V (mj ex s.val (Int.tdiv cv 13) cp (HS.call a5) (by exact vo) (by exact vo) (by exact vo) A (by exact vo) (by exact vo) M) ?_;rintro _ oM ⟨d1,f9,hx,oy,b6,ez,rfl,mx,mS,mT,f3,om⟩;replace ez:=HS.back a5 V ez;replace O:=O.mono b6;replace U:=U.mono b6;replace E:=E.mono b6;replace a_:=a_.mono b6;refine sgo 2 6 58 58 [] [] (Hr_ 7 0 Hn_) ez V V fun ob oN k3=>?_
  refine am 3 V ?_;refine sgr 1 124 124 [] [] (Hr_ 0 0 (Hr_ 1 1 Hn_)) k3 V V fun oc oO hm=>?_
  refine ag ⟨.inr V,_,(rC V (dC V V (i_ hm V) V) rN),(⟨s.kind,⟨s.name.b⟩,⟨s.to.b⟩,s.n,(⟨s.at_.kind,s.at_.n,⟨s.at_.name.b⟩,s.at_.op,s.at_.kids⟩:ExpT),(⟨d1.kind,d1.n,⟨d1.name.b⟩,d1.op,d1.kids⟩:ExpT),s.args,s.thn,s.els⟩:StmT),a3,a4,f9,hx,aA,a0,a1,a2,al,ar,_,(b6),(HS.forget hm),V,(by exact vo),(by exact vo),(by exact vo),(by exact vo),(by exact vo),(by exact vo),(by exact vo),(by exact vo),a_,f3,O,U,E,(by first|omega|(simp only[aT,bd];omega)|(simp only[aT,bd];have:=nm7 (k:=ab cp 6);have:=nm8 (k:=ab cp 5);omega)|(simp only[aT,bd];have:=bU (k:=20) (show ab cp s.thn.length<s.thn.length by omega) X;omega)|(simp only[bx,aT,bg,be,kF,eK,eN,eM,bd,a0e,a01,a02];omega))⟩
 try simp only[BS]at g3
 refine wT 1 [] 59 60 [] [(59,(.bool (((ab cv 13:Nat):Int)==6)))] V fun _=>?_
 refine ao 0 1 (v:=(((ab cv 13:Nat):Int)==6)) V V V V (fun g4=>?_) (fun g4=>?_)
 ·try simp only[BS]at g4
  refine ad ?_;refine zlo ([]:List ExpT) a5 V RL.nl V fun o8 pu pE oP i1 e0=>?_
  refine du 2 1 62 63 [] [(63,(sL aA s.args.length a0))] (Hr_ 2 0 Hn_) e0 V V fun _=>?_
  refine zao 2 i1 e0 (SR.sv O e0) V V V l_ fun mY nc nk oQ d4 k4=>?_
  have d4:OS F (sL mY s.args.length nc) s.args nk:=d4;refine dG 1 4 65 65 [] [(65,(aG [(iI 1),(iI 0),(tX []),(iI 0),(sL none 0 0)]))] Hn_ (by kernel_rfl) V fun _=>?_
  refine zlo ([(⟨1,0,⟨[]⟩,0,([]:List ExpT)⟩:ExpT)]:List ExpT) k4 V (RL.cs (ExpT.mq SR.nil) RL.nl) V fun o9 pw pF oR i2 ho=>?_
  refine zao 2 d4 ho (OS.sv i2 ho (i:=3) V) V V V l_ fun mZ ne pG oS i3 k5=>?_
  refine sgo 2 7 68 68 [] [] (Hr_ 8 0 Hn_) k5 V V fun od oT k6=>?_
  refine am 3 V ?_;refine sgr 1 124 124 [] [] (Hr_ 0 0 (Hr_ 1 1 Hn_)) k6 V V fun oe oU k7=>?_
  obtain⟨oz,b8,hp,kk,oo⟩:=OS.frz i3 k7 (i:=2) V;replace A:=A.mono b8;replace U:=U.mono b8;replace E:=E.mono b8;replace a_:=a_.mono b8;refine ag ⟨.inr V,_,(rC V (dC V V (i_ hp V) V) rN),(⟨s.kind,⟨s.name.b⟩,⟨s.to.b⟩,s.n,(⟨s.at_.kind,s.at_.n,⟨s.at_.name.b⟩,s.at_.op,s.at_.kids⟩:ExpT),(⟨s.val.kind,s.val.n,⟨s.val.name.b⟩,s.val.op,s.val.kids⟩:ExpT),s.args++([(⟨1,0,⟨[]⟩,0,([]:List ExpT)⟩:ExpT)]:List ExpT),s.thn,s.els⟩:StmT),a3,a4,Z,an,mZ,ne,a1,a2,al,ar,_,(b8),(HS.forget hp),V,(by exact vo),(by exact vo),(by exact vo),(by exact vo),(by exact vo),(by exact vo),(by exact vo),(by exact vo),a_,A,kk,U,E,(by first|omega|(simp only[aT,bd];omega)|(simp only[aT,bd];have:=nm7 (k:=ab cp 6);have:=nm8 (k:=ab cp 5);omega)|(simp only[aT,bd];have:=bU (k:=20) (show ab cp s.thn.length<s.thn.length by omega) X;omega)|(simp only[bx,aT,bg,be,kF,eK,eN,eM,bd,a0e,a01,a02];omega))⟩
 try simp only[BS]at g4
 refine wT 1 [] 69 70 [] [(69,(.bool (((ab cv 13:Nat):Int)==7)))] V fun _=>?_
 refine ao 0 1 (v:=(((ab cv 13:Nat):Int)==7)) V V V V (fun g5=>?_) (fun g5=>?_)
 ·try simp only[BS]at g5
  refine sgr 3 71 71 [] [] (Hr_ 1 0 Hn_) a5 V V fun og oV k8=>?_
  refine sgr 1 124 124 [] [] (Hr_ 0 0 (Hr_ 1 1 Hn_)) k8 V V fun oh oW hq=>?_
  refine ag ⟨.inr V,_,(rC V (dC V V (i_ hq V) V) rN),(⟨s.kind,⟨s.name.b⟩,⟨s.to.b⟩,s.n,(⟨s.at_.kind,s.at_.n,⟨s.at_.name.b⟩,s.at_.op,s.at_.kids⟩:ExpT),(⟨s.val.kind,s.val.n,⟨s.val.name.b⟩,s.val.op,s.val.kids⟩:ExpT),([]:List ExpT),s.thn,s.els⟩:StmT),a3,a4,Z,an,none,0,a1,a2,al,ar,_,fR,(HS.forget hq),V,(by exact vo),(by exact vo),(by exact vo),(by exact vo),(by exact vo),(by exact vo),(by exact vo),(by exact vo),a_,A,(SR.nil:SR F (sL none 0 0) ([]:List ExpT)),U,E,(by first|omega|(simp only[aT,bd];omega)|(simp only[aT,bd];have:=nm7 (k:=ab cp 6);have:=nm8 (k:=ab cp 5);omega)|(simp only[aT,bd];have:=bU (k:=20) (show ab cp s.thn.length<s.thn.length by omega) X;omega)|(simp only[bx,aT,bg,be,kF,eK,eN,eM,bd,a0e,a01,a02];omega))⟩
 try simp only[BS]at g5
 refine wT 1 [] 72 73 [] [(72,(.bool (((ab cv 13:Nat):Int)==8)))] V fun _=>?_
 refine ao 0 1 (v:=(((ab cv 13:Nat):Int)==8)) V V V V (fun g6=>?_) (fun g6=>?_)
 ·try simp only[BS]at g6
  refine ad ?_;refine zlo ([]:List StmT) a5 V RL.nl V fun pi px pH oX jw e1=>?_
  refine du 2 1 75 76 [] [(76,(sL al s.els.length ar))] (Hr_ 2 0 Hn_) e1 V V fun _=>?_
  refine zao 2 jw e1 (SR.sv E e1) V V V l_ fun m0 ng nn oY d5 k9=>?_
  have d5:OS F (sL m0 s.els.length ng) s.els nn:=d5;refine dG 1 4 78 78 [] [(78,(aG [(iI 7),(tX []),(tX []),(iI 0),(iI 0),(iI 0),(tX []),(iI 0),(sL none 0 0),(iI 0),(iI 0),(tX []),(iI 0),(sL none 0 0),(sL none 0 0),(sL none 0 0),(sL none 0 0)]))] Hn_ (by kernel_rfl) V fun _=>?_
  refine zlo ([(⟨7,⟨[]⟩,⟨[]⟩,0,(⟨0,0,⟨[]⟩,0,([]:List ExpT)⟩:ExpT),(⟨0,0,⟨[]⟩,0,([]:List ExpT)⟩:ExpT),([]:List ExpT),([]:List StmT),([]:List StmT)⟩:StmT)]:List StmT) k9 V (RL.cs (StmT.mq SR.nil SR.nil SR.nil SR.nil SR.nil) RL.nl) V fun pj py pI oZ jA hr=>?_
  refine zao 2 d5 hr (OS.sv jA hr (i:=3) V) V V V l_ fun m1 nh pJ o0 j1 ll=>?_
  refine sgo 2 7 81 81 [] [] (Hr_ 8 0 Hn_) ll V V fun oi o1 lr=>?_
  refine am 3 V ?_;refine sgr 1 124 124 [] [] (Hr_ 0 0 (Hr_ 1 1 Hn_)) lr V V fun oj o2 lz=>?_
  obtain⟨oA,b9,ht,kl,oq⟩:=OS.frz j1 lz (i:=2) V;replace A:=A.mono b9;replace O:=O.mono b9;replace U:=U.mono b9;replace a_:=a_.mono b9;refine ag ⟨.inr V,_,(rC V (dC V V (i_ ht V) V) rN),(⟨s.kind,⟨s.name.b⟩,⟨s.to.b⟩,s.n,(⟨s.at_.kind,s.at_.n,⟨s.at_.name.b⟩,s.at_.op,s.at_.kids⟩:ExpT),(⟨s.val.kind,s.val.n,⟨s.val.name.b⟩,s.val.op,s.val.kids⟩:ExpT),s.args,s.thn,s.els++([(⟨7,⟨[]⟩,⟨[]⟩,0,(⟨0,0,⟨[]⟩,0,([]:List ExpT)⟩:ExpT),(⟨0,0,⟨[]⟩,0,([]:List ExpT)⟩:ExpT),([]:List ExpT),([]:List StmT),([]:List StmT)⟩:StmT)]:List StmT)⟩:StmT),a3,a4,Z,an,aA,a0,a1,a2,m1,nh,_,(b9),(HS.forget ht),V,(by exact vo),(by exact vo),(by exact vo),(by exact vo),(by exact vo),(by exact vo),(by exact vo),(by exact vo),a_,A,O,U,kl,(by first|omega|(simp only[aT,bd];omega)|(simp only[aT,bd];have:=nm7 (k:=ab cp 6);have:=nm8 (k:=ab cp 5);omega)|(simp only[aT,bd];have:=bU (k:=20) (show ab cp s.thn.length<s.thn.length by omega) X;omega)|(simp only[bx,aT,bg,be,kF,eK,eN,eM,bd,a0e,a01,a02];omega))⟩
 try simp only[BS]at g6
 refine wT 1 [] 82 83 [] [(82,(.bool (((ab cv 13:Nat):Int)==9)))] V fun _=>?_
 refine ao 0 1 (v:=(((ab cv 13:Nat):Int)==9)) V V V V (fun g7=>?_) (fun g7=>?_)
 ·try simp only[BS]at g7
  refine ad ?_;refine zlo ([]:List StmT) a5 V RL.nl V fun pk pz pK o3 j2 e2=>?_
  refine du 2 1 85 86 [] [(86,(sL a1 s.thn.length a2))] (Hr_ 2 0 Hn_) e2 V V fun _=>?_
  refine zao 2 j2 e2 (SR.sv U e2) V V V l_ fun m2 ni nq mX d6 l0=>?_
  have d6:OS F (sL m2 s.thn.length ni) s.thn nq:=d6;have nZ:=aB cp 3;refine dG 3 4 88 90 [] [(90,(aG [(iI 7),(tX []),(tX []),(iI ((ab cp 3:Nat):Int)),(iI 0),(iI 0),(tX []),(iI 0),(sL none 0 0),(iI 0),(iI 0),(tX []),(iI 0),(sL none 0 0),(sL none 0 0),(sL none 0 0),(sL none 0 0)]))] (Hc_ 5 (ga.az ex cp 3 mX (by exact vo)) Hn_) (by kernel_rfl) V fun _=>?_
  refine zlo ([(⟨7,⟨[]⟩,⟨[]⟩,((ab cp 3:Nat):Int),(⟨0,0,⟨[]⟩,0,([]:List ExpT)⟩:ExpT),(⟨0,0,⟨[]⟩,0,([]:List ExpT)⟩:ExpT),([]:List ExpT),([]:List StmT),([]:List StmT)⟩:StmT)]:List StmT) l0 V (RL.cs (StmT.mq SR.nil SR.nil SR.nil SR.nil SR.nil) RL.nl) V fun pl pA pL o4 kd hu=>?_
  refine zao 2 d6 hu (OS.sv kd hu (i:=3) V) V V V l_ fun m3 nj pM nG ki hF=>?_
  refine sgo 2 9 93 93 [] [] (Hr_ 10 0 Hn_) hF V V fun nu nH hG=>?_
  refine am 3 V ?_;refine sgr 1 124 124 [] [] (Hr_ 0 0 (Hr_ 1 1 Hn_)) hG V V fun nv nI hH=>?_
  obtain⟨nF,bl,e7,hD,nB⟩:=OS.frz ki hH (i:=2) V;replace A:=A.mono bl;replace O:=O.mono bl;replace E:=E.mono bl;replace a_:=a_.mono bl;refine ag ⟨.inr V,_,(rC V (dC V V (i_ e7 V) V) rN),(⟨s.kind,⟨s.name.b⟩,⟨s.to.b⟩,s.n,(⟨s.at_.kind,s.at_.n,⟨s.at_.name.b⟩,s.at_.op,s.at_.kids⟩:ExpT),(⟨s.val.kind,s.val.n,⟨s.val.name.b⟩,s.val.op,s.val.kids⟩:ExpT),s.args,s.thn++([(⟨7,⟨[]⟩,⟨[]⟩,((ab cp 3:Nat):Int),(⟨0,0,⟨[]⟩,0,([]:List ExpT)⟩:ExpT),(⟨0,0,⟨[]⟩,0,([]:List ExpT)⟩:ExpT),([]:List ExpT),([]:List StmT),([]:List StmT)⟩:StmT)]:List StmT),s.els⟩:StmT),a3,a4,Z,an,aA,a0,m3,nj,al,ar,_,(bl),(HS.forget e7),V,(by exact vo),(by exact vo),(by exact vo),(by exact vo),(by exact vo),(by exact vo),(by exact vo),(by exact vo),a_,A,O,hD,E,(by first|omega|(simp only[aT,bd];omega)|(simp only[aT,bd];have:=nm7 (k:=ab cp 6);have:=nm8 (k:=ab cp 5);omega)|(simp only[aT,bd];have:=bU (k:=20) (show ab cp s.thn.length<s.thn.length by omega) X;omega)|(simp only[bx,aT,bg,be,kF,eK,eN,eM,bd,a0e,a01,a02];omega))⟩
 try simp only[BS]at g7
 refine wT 1 [] 94 95 [] [(94,(.bool (((ab cv 13:Nat):Int)==10)))] V fun _=>?_
 refine ao 1 3 (v:=(((ab cv 13:Nat):Int)==10)) V V V V (fun d2=>?_) (fun d2=>?_)
 ·try simp only[BS]at d2
  refine ef 1 96 99 [] [(99,(.bool (decide ((0:Int)<(s.thn.length:Int)))))] (Hr_ 1 0 Hn_) a5 V V fun _=>?_
  refine ao 1 3 (v:=(decide ((0:Int)<(s.thn.length:Int)))) V V V V (fun d3=>?_) (fun d3=>?_)
  ·try simp only[BS]at d3
   have nt:=aB cp s.thn.length;refine ef 2 100 104 [7] [(7,(iI ((ab cp s.thn.length:Nat):Int)))] (Hr_ 2 0 (Hc_ 4 (ga.az ex cp s.thn.length H4 (by exact vo)) Hn_)) a5 V V fun _=>?_
   refine ad ?_;refine zlo ([]:List StmT) a5 V RL.nl V fun nO ot ou nJ hB c7=>?_
   refine du 2 1 106 107 [] [(107,(sL a1 s.thn.length a2))] (Hr_ 2 0 Hn_) c7 V V fun _=>?_
   refine zao 2 hB c7 (SR.sv U c7) V V V l_ fun bb bf hz nK a8 hI=>?_
   have a8:OS F (sL bb s.thn.length bf) s.thn hz:=a8;refine sgo 2 4 109 109 [] [] (Hr_ 5 0 Hn_) hI V V fun nw nL ba=>?_
   refine am 1 V ?_;refine aH V ?_;obtain⟨a6,fi⟩:=Sv.view (OS.sv a8 ba (i:=2) V);obtain⟨m4,m5,m6,m7,m8,m9,mk,mm,hA,f4,f5,f6,f7⟩:=StmT.fx (fi (ab cp s.thn.length));have nD:in64 cv->in64 (Int.tdiv cv 13):=fun h=>vq h e_
   have nE:in64 cp->in64 (Int.tdiv cp 3):=fun h=>vq h e_
   refine dy 12 110 121 [] [(111,(sL bb s.thn.length bf)),(112,(iI ((ab cp s.thn.length:Nat):Int))),(117,(aG [(iI (s.thn.getD (ab cp s.thn.length) default).kind),(tX (s.thn.getD (ab cp s.thn.length) default).name.b),(tX (s.thn.getD (ab cp s.thn.length) default).to.b),(iI (s.thn.getD (ab cp s.thn.length) default).n),(iI (s.thn.getD (ab cp s.thn.length) default).at_.kind),(iI (s.thn.getD (ab cp s.thn.length) default).at_.n),(tX (s.thn.getD (ab cp s.thn.length) default).at_.name.b),(iI (s.thn.getD (ab cp s.thn.length) default).at_.op),(sL (cA (a6 (ab cp s.thn.length)) 8) (s.thn.getD (ab cp s.thn.length) default).at_.kids.length (cK (a6 (ab cp s.thn.length)) 8)),(iI (s.thn.getD (ab cp s.thn.length) default).val.kind),(iI (s.thn.getD (ab cp s.thn.length) default).val.n),(tX (s.thn.getD (ab cp s.thn.length) default).val.name.b),(iI (s.thn.getD (ab cp s.thn.length) default).val.op),(sL (cA (a6 (ab cp s.thn.length)) 13) (s.thn.getD (ab cp s.thn.length) default).val.kids.length (cK (a6 (ab cp s.thn.length)) 13)),(sL (cA (a6 (ab cp s.thn.length)) 14) (s.thn.getD (ab cp s.thn.length) default).args.length (cK (a6 (ab cp s.thn.length)) 14)),(sL (cA (a6 (ab cp s.thn.length)) 15) (s.thn.getD (ab cp s.thn.length) default).thn.length (cK (a6 (ab cp s.thn.length)) 15)),(sL (cA (a6 (ab cp s.thn.length)) 16) (s.thn.getD (ab cp s.thn.length) default).els.length (cK (a6 (ab cp s.thn.length)) 16))])),(119,(iI (Int.tdiv cv 13))),(121,(iI (Int.tdiv cp 3)))] (Hr_ 1 0 (Hr_ 4 0 (Ha_ (Sv.ix (j:=((ab cp s.thn.length:Nat):Int)) (OS.sv a8 ba (i:=2) V) (by exact vo) (by exact vo)) (Hl_ 7 (qn 49 0 17 (hc0 (StmT.vw (fi (ab cp s.thn.length)) (by exact vo))) V V V V) (Ha_ (vA (show(13:Int)≠0 from by decide) (vq (a:=cv) (b:=13) (by exact vo) e_)) (Ha_ (vA (show(3:Int)≠0 from by decide) (vq (a:=cp) (b:=3) (by exact vo) e_)) Hn_)))))) ba V V fun _=>?_
   refine bN (W:=[]) (aq V V V) V V V (ih (s.thn.getD (ab cp s.thn.length) default) (Int.tdiv cv 13) (Int.tdiv cp 3) (HS.call ba.log0) (by exact vo) (by exact vo) (by exact vo) (by exact vo) (by exact vo) hA (by exact vo) (by exact vo) (by exact vo) f4 f5 f6 f7 (by exact vo) (by exact vo) (by first|omega|(have:=kC (l:=s.thn) (i:=ab cp s.thn.length) M;omega)) (by first|omega|(have:=kC (l:=s.thn) (i:=ab cp s.thn.length) M;omega))) (⟨.inl V,⟨.inl V,⟨.inl V,⟨.inl V,⟨.inl V,⟨.inl V,⟨.inl V,⟨.inl V,⟨.inl V,⟨.inr trivial,⟨.inr a0l,⟨.inr trivial,trivial⟩⟩⟩⟩⟩⟩⟩⟩⟩⟩⟩⟩) ?_;rintro _ h2 ⟨ax,c3,c4,bw,ch,bF,ci,b0,co,b2,c0,h0,a9,a7,rfl,h7,h8,h9,ib,ik,it,hW,hX,d7,c9,dk,dn,ds,nA⟩;refine⟨Wr.did a7.log,fun hT g8=>?_⟩;replace a7:=HS.back ba.log0 V a7;replace a7:=HS.lg a7 ba g8;generalize ({h2 with log:=hT}:Heap)=nr at a7⊢;replace a8:=a8.mono a9;refine aK (v:=(.pointer (some ⟨sB (sL bb s.thn.length bf),sO (sL bb s.thn.length bf)+(ab cp s.thn.length) *Rp.sz StmT,none⟩))) (id:= .v) (dY (α:=StmT) (j:=((ab cp s.thn.length:Nat):Int)) V V V V (OS.sv a8 a7.log0 (i:=2) V) (by exact vo) (by exact vo)) V V (cX V) (cG _) ?_;refine fg (id:= .x (hz.map Prod.fst)) (kM (α:=StmT) (j:=ab cp s.thn.length) (off:=0) (q:=2) ax a8 a7.log0 V V V V V V V V (cx (x:=default) (by exact vo)) V (eP (F:=h0) (Y:=ax) (cl:=[(iI ax.kind),(tX ax.name.b),(tX ax.to.b),(iI ax.n),(iI ax.at_.kind),(iI ax.at_.n),(tX ax.at_.name.b),(iI ax.at_.op),(sL c3 ax.at_.kids.length c4),(iI ax.val.kind),(iI ax.val.n),(tX ax.val.name.b),(iI ax.val.op),(sL bw ax.val.kids.length ch),(sL bF ax.args.length ci),(sL b0 ax.thn.length co),(sL b2 ax.els.length c0)]) (StmT.mkr ⟨c3,c4,bw,ch,bF,ci,b0,co,b2,c0,V,by exact vo,by exact vo,by exact vo,by exact vo,by exact vo,by exact vo,by exact vo,by exact vo,d7,c9,dk,dn,ds⟩))) V (by rintro _ _ mg ⟨c5,_,hwr⟩;exact dU V V (Wr.did hwr)) (⟨.inl V,⟨.inl V,⟨.inl V,⟨.inl V,⟨.inl V,⟨.inl V,⟨.inl V,⟨.inl V,⟨.inl V,⟨.inl V,⟨.inl V,⟨.inl V,⟨.inl V,⟨.inl V,trivial⟩⟩⟩⟩⟩⟩⟩⟩⟩⟩⟩⟩⟩⟩) ?_;rintro _ h3 mg ⟨c5,bt,_⟩ hV g9;replace bt:=HS.lg bt a7 g9;generalize ({h3 with log:=hV}:Heap)=ns at bt⊢;have na:=OS.len' c5;refine bC 3 V ?_;refine sgr 1 124 124 [] [] (Hr_ 0 0 (Hr_ 1 1 Hn_)) bt V V fun nx h4 hJ=>?_
   obtain⟨h1,bn,hK,c6,nC⟩:=OS.frz c5 hJ (i:=2) V;replace A:=(A.mono a9).mono bn;replace O:=(O.mono a9).mono bn;replace E:=(E.mono a9).mono bn;replace a_:=(a_.mono a9).mono bn;replace c6:=SR.norm c6;have hg:HS _ _ _ [_,_,_] _:=hK;have e8:HS (Base.of H []) h1 h4 [(fP b1 [(iI s.kind),(tX s.name.b),(tX s.to.b),(iI s.n),(iI s.at_.kind),(iI s.at_.n),(tX s.at_.name.b),(iI s.at_.op),(sL a3 s.at_.kids.length a4),(iI s.val.kind),(iI s.val.n),(tX s.val.name.b),(iI s.val.op),(sL Z s.val.kids.length an),(sL aA s.args.length a0),(sL bb (s.thn.set (ab cp s.thn.length) ax).length bf),(sL al s.els.length ar)]),(fP b3 [(iI s.kind),(tX s.name.b),(tX s.to.b),(iI s.n),(iI s.at_.kind),(iI s.at_.n),(tX s.at_.name.b),(iI s.at_.op),(sL a3 s.at_.kids.length a4),(iI s.val.kind),(iI s.val.n),(tX s.val.name.b),(iI s.val.op),(sL Z s.val.kids.length an),(sL aA s.args.length a0),(sL bb (s.thn.set (ab cp s.thn.length) ax).length bf),(sL al s.els.length ar)]),[]] R:=by simpa only[a0F,a0e] using hg
   refine ag ⟨.inr V,_,(rC V (dC V V (i_ e8 V) V) rN),(⟨s.kind,⟨s.name.b⟩,⟨s.to.b⟩,s.n,(⟨s.at_.kind,s.at_.n,⟨s.at_.name.b⟩,s.at_.op,s.at_.kids⟩:ExpT),(⟨s.val.kind,s.val.n,⟨s.val.name.b⟩,s.val.op,s.val.kids⟩:ExpT),s.args,s.thn.set (ab cp s.thn.length) ax,s.els⟩:StmT),a3,a4,Z,an,aA,a0,bb,bf,al,ar,_,(fT (a9) bn),(HS.forget e8),V,(by exact vo),(by exact vo),(by exact vo),(by exact vo),(by exact vo),(by exact vo),(by exact vo),(by exact vo),a_,A,O,c6,E,(by first|omega|(simp only[aT,bd];omega)|(simp only[aT,bd];have:=nm7 (k:=ab cp 6);have:=nm8 (k:=ab cp 5);omega)|(simp only[aT,bd];have:=bU (k:=20) (show ab cp s.thn.length<s.thn.length by omega) X;omega)|(simp only[bx,aT,bg,be,kF,eK,eN,eM,bd,a0e,a01,a02];omega))⟩
  try simp only[BS]at d3
  refine sgr 1 124 124 [] [] (Hr_ 0 0 (Hr_ 1 1 Hn_)) a5 V V fun ny nM fb=>?_
  refine ag ⟨.inr V,_,(rC V (dC V V (i_ fb V) V) rN),s,a3,a4,Z,an,aA,a0,a1,a2,al,ar,_,fR,(HS.forget fb),V,(by exact vo),(by exact vo),(by exact vo),(by exact vo),(by exact vo),(by exact vo),(by exact vo),(by exact vo),a_,A,O,U,E,(by first|omega|(simp only[aT,bd];omega)|(simp only[aT,bd];have:=nm7 (k:=ab cp 6);have:=nm8 (k:=ab cp 5);omega)|(simp only[aT,bd];have:=bU (k:=20) (show ab cp s.thn.length<s.thn.length by omega) X;omega)|(simp only[bx,aT,bg,be,kF,eK,eN,eM,bd,a0e,a01,a02];omega))⟩
 try simp only[BS]at d2
 refine sgr 1 124 124 [] [] (Hr_ 0 0 (Hr_ 1 1 Hn_)) a5 V V fun nz nN fd=>?_
 refine ag ⟨.inr V,_,(rC V (dC V V (i_ fd V) V) rN),s,a3,a4,Z,an,aA,a0,a1,a2,al,ar,_,fR,(HS.forget fd),V,(by exact vo),(by exact vo),(by exact vo),(by exact vo),(by exact vo),(by exact vo),(by exact vo),(by exact vo),a_,A,O,U,E,(by first|omega|(simp only[aT,bd];omega)|(simp only[aT,bd];have:=nm7 (k:=ab cp 6);have:=nm8 (k:=ab cp 5);omega)|(simp only[aT,bd];have:=bU (k:=20) (show ab cp s.thn.length<s.thn.length by omega) X;omega)|(simp only[bx,aT,bg,be,kF,eK,eN,eM,bd,a0e,a01,a02];omega))⟩
theorem mstmt_c{U:Option Addr}{a0:Nat}{O:Option Addr}{aA:Nat}{E:Option Addr}{ax:Nat}{A:Option Addr}{ar:Nat}{a5:Option Addr}{a7:Nat}(s:StmT)(b6:Int)(b4:Int)(hs:HS (.of H []) F H [] R)(bt:in64 s.kind)(bw:in64 s.n)(bF:in64 s.at_.kind)(b0:in64 s.at_.n)(b1:in64 s.at_.op)(b2:SR F (sL a5 s.at_.kids.length a7) s.at_.kids)(b3:in64 s.val.kind)(a9:in64 s.val.n)(ba:in64 s.val.op)(bb:SR F (sL A s.val.kids.length ar) s.val.kids)(bf:SR F (sL E s.args.length ax) s.args)(bl:SR F (sL O s.thn.length aA) s.thn)(bn:SR F (sL U s.els.length a0) s.els)(b9:in64 b6)(b8:in64 b4)(hn:bkS s<=1000000000):kKt ex 11 [(aG [(iI s.kind),(tX s.name.b),(tX s.to.b),(iI s.n),(iI s.at_.kind),(iI s.at_.n),(tX s.at_.name.b),(iI s.at_.op),(sL a5 s.at_.kids.length a7),(iI s.val.kind),(iI s.val.n),(tX s.val.name.b),(iI s.val.op),(sL A s.val.kids.length ar),(sL E s.args.length ax),(sL O s.thn.length aA),(sL U s.els.length a0)]),(iI b6),(iI b4)] H fun v H'=> ∃(x:StmT) (a6:Option Addr) (a8:Nat) (a_:Option Addr) (a1:Nat) (Z:Option Addr) (a2:Nat) (al:Option Addr) (a3:Nat) (an:Option Addr) (a4:Nat) (F':Fz),Fz.le F F'/\HS (.of H []) F' H' [] R/\v= .agg ⟨[iI x.kind,tX x.name.b,tX x.to.b,iI x.n,iI x.at_.kind,iI x.at_.n,tX x.at_.name.b,iI x.at_.op,sL a6 x.at_.kids.length a8,iI x.val.kind,iI x.val.n,tX x.val.name.b,iI x.val.op,sL a_ x.val.kids.length a1,sL Z x.args.length a2,sL al x.thn.length a3,sL an x.els.length a4]⟩/\in64 x.kind/\in64 x.n/\in64 x.at_.kind/\in64 x.at_.n/\in64 x.at_.op/\in64 x.val.kind/\in64 x.val.n/\in64 x.val.op/\SR F' (sL a6 x.at_.kids.length a8) x.at_.kids/\SR F' (sL a_ x.val.kids.length a1) x.val.kids/\SR F' (sL Z x.args.length a2) x.args/\SR F' (sL al x.thn.length a3) x.thn/\SR F' (sL an x.els.length a4) x.els/\(bkS x<=bkS s+20):=
 mstmt_c_aux ex (bkS s+1) s b6 b4 hs bt bw bF b0 b1 b2 b3 a9 ba bb bf bl bn b9 b8 hn (a1d _)
end Go.Proofs.Ytkpgbdkkgcdhmaa.km
