/-
What the checker of the program looks at: names, operators, single expressions. No condition but that names have less than 2^62 bytes.
-/
import Derived.Test.YtkpgbdkkgcdhmaaGreatZPL1
import Derived.Test.YtkpgbdkkgcdhmaaGreatZPPT
noncomputable section
namespace Go.Proofs.YtkpgbdkkgcdhmaaGreat.da
open Go.R
set_option maxRecDepth 10000
set_option linter.unusedVariables false
set_option linter.unusedSimpArgs false
variable (ex:FuncId) {F:Fz} {H:Heap} {R:List Fp}
open w3 l1 pt
theorem jl{B:Base}{F:Fz}{L R:List Fp}{H:Heap}(hs:HS B F H L R){b:Nat}{cs:List Value}{w:Value}(t:TypeId)(i j:Nat)(A:aggOf Tryz.prog t=some false)(h:L[j]?=some [(b,.cells cs none false)])(E:cs[i]?=some w): ∀H,JJ B F L R H->LDv Tryz.prog H t (pT b i) w:=jl0 hs t i j A h E
theorem jn{B:Base}{F:Fz}{L R:List Fp}{H:Heap}(hs:HS B F H L R){b:Nat}{cs l:List Value}(t:TypeId)(i n j:Nat)(A:aggOf Tryz.prog t=some true)(U:cT Tryz.prog t=some n)(h:L[j]?=some [(b,.cells cs none false)])(O:Nat.ble (i+n) cs.length=true)(E:dL (dX cs i) n=l): ∀H,JJ B F L R H->LDv Tryz.prog H t (pT b i) (.agg ⟨l⟩):=jn0 hs t i n j A U h O E
structure FdT where
 name:Bool
 to:Bool
 n:Bool
 at_:Bool
 val:Bool
 args:Bool
 thn:Bool
 els:Bool
 deriving Inhabited
instance :Rp FdT where
 sz:=8
 rep F cs x:=cs=[.bool x.name,.bool x.to,.bool x.n,.bool x.at_,.bool x.val,.bool x.args,.bool x.thn,.bool x.els]
 len:=by rintro F cs x rfl;rfl
 one:=by rintro F cs x rfl;rfl
 mono:=by intro F F' cs x _ h;exact h
mutual
def nmE:ExpT->Prop
 |⟨_,_,nm,_,ks⟩=>nm.b.length<4611686018427387904/\nmEs ks
def nmEs:List ExpT->Prop
 | []=>True
 |e::l=>nmE e/\nmEs l
end
theorem nm_e{e:ExpT}(h:nmE e):e.name.b.length<4611686018427387904/\nmEs e.kids:=by cases e;rwa [nmE]at h
theorem nm_at: ∀{l:List ExpT} {i:Nat},nmEs l->i<l.length->nmE (l.getD i default)
 |e::l,0,h,_=>by rw[nmEs]at h;exact h.1
 |e::l,i+1,h,hi=>by rw[nmEs]at h;exact nm_at (l:=l) h.2 (by simpa using hi)
theorem drp5{α:Type}{l:List α}{i:Nat}{d:α}(h:i<l.length):l.drop i=l.getD i d::l.drop (i+1):=by rw[a0V h,a0b,a09 h];rfl
theorem dre5{α:Type}{l:List α}{i:Nat}(h:l.length<=i):l.drop i=[]:=a1f h
theorem lE{α:Type} [Inhabited α]{p:α->Bool}{l:List α}{i:Nat}(h:i<l.length)(c:p (l.getD i default)=true):(l.drop i).all p=(l.drop (i+1)).all p:=by rw[drp5 (d:=default) h,a0f,c];rfl
theorem jT{α:Type} [Inhabited α]{p:α->Bool}{l:List α}{i:Nat}(h:i<l.length)(c:p (l.getD i default)=false):(l.drop i).all p=false:=by rw[drp5 (d:=default) h,a0f,c];rfl
def fdK(k:Int):FdT:=if k=1 then⟨true,false,false,false,true,false,false,false⟩ else if k=2 then⟨true,false,false,true,true,false,false,false⟩ else if k=3 then⟨false,false,false,false,true,false,true,true⟩ else if k=4 then⟨false,false,false,false,true,false,true,false⟩ else if k=5 then⟨false,false,false,false,true,false,false,false⟩ else if k=6 then⟨true,true,false,false,false,true,false,false⟩ else if k=7 then⟨false,false,true,false,false,false,false,false⟩ else⟨false,false,false,false,false,false,false,false⟩
def fdO(k:Int):Bool:=decide (1<=k)&&decide (k<=7)
def opK5(k n:Int):Bool:=if((k==20)||(k==21))=true then(n==1) else(((decide ((4:Int)<=k))&&(decide (k<=18)))&&(n==2))
def zrE(x:ExpT):Bool:=((((x.kind==0)&&(x.n==0))&&(x.name.b==[]))&&(x.op==0))&&((x.kids.length:Int)==0)
def rsK(s:List UInt8):Bool:=(s==[97,114,114,97,121])||(s==[102,117,110,99])||(s==[118,97,114])||(s==[114,101,116,117,114,110])||(s==[105,102])||(s==[101,108,115,101])||(s==[119,104,105,108,101])||(s==[111,117,116])||(s==[116,114,97,112])
def scK(s:List UInt8):Bool:=((((cm s).2.1 !=0)||(((cm s).1.length:Int) !=1))||(((cm s).1.getD 0 default).kind !=1))||(((cm s).1.getD 0 default).text.b !=s)
def vnK(s:List UInt8):Bool:= !scK s&& !rsK s
def nmF(s:List UInt8)(w:Bool):Bool:=if w=true then vnK s else(s==[])
def wxE(x:ExpT):Bool:=
 if x.kind=1 then((x.name.b==[])&&(x.op==0))&&((x.kids.length:Int)==0)
 else if x.kind=5 then(((x.n==0)&&(x.name.b==[]))&&(x.op==0))&&((x.kids.length:Int)==3)
 else if x.kind=4 then((x.n==0)&&(x.name.b==[]))&&opK5 x.op (x.kids.length:Int)
 else if x.kind=2 then(((x.n==0)&&(x.op==0))&&((x.kids.length:Int)==0))&&vnK x.name.b
 else if x.kind=3 then(((x.n==0)&&(x.op==0))&&((x.kids.length:Int)==1))&&vnK x.name.b
 else false
theorem validop_c(k:Int)(n:Int)(H:Heap):kKt ex 122 [(iI k),(iI n)] H fun v H'=> ∃(o:Bool),H'=H/\v= .bool o/\o=opK5 k n:=by
 refine av Tryz.func122 V V (ai 1 V (wT 3 [] 4 4 [] [(4,(.bool false))] V fun _=>wT 1 [] 5 10 [] [(10,(.bool ((k==20)||(k==21))))] V fun _=>zi 1 2 (fun A=>?_) fun A=>?_))
 ·try simp only[BS]at A
  refine wT 1 [] 11 12 [4] [(4,(.bool (n==1)))] V fun _=>ae ⟨.inr V,_,V,(n==1),V,V,(by unfold opK5;simp_all)⟩
 try simp only[BS]at A
 refine wT 1 [] 13 22 [4] [(4,(.bool (((decide ((4:Int)<=k))&&(decide (k<=18)))&&(n==2))))] V fun _=>ae ⟨.inr V,_,V,(((decide ((4:Int)<=k))&&(decide (k<=18)))&&(n==2)),V,V,(by unfold opK5;simp_all)⟩
theorem validop_c_q(k:Int)(n:Int)(H:Heap):kKt ex 122 [(iI k),(iI n)] H fun v H'=>v=(.bool (opK5 k n))/\H'=H:=
 cq (validop_c ex k n H) (by rintro _ _ ⟨_,rfl,rfl,rfl⟩;exact⟨V,V⟩)
theorem iszero5_c{E:Option Addr}{O:Nat}(x:ExpT)(hs:HS (.of H []) F H [] R)(U:in64 x.kind)(a_:in64 x.n)(Z:in64 x.op)(al:SR F (sL E x.kids.length O) x.kids):kKt ex 137 [(aG [(iI x.kind),(iI x.n),(tX x.name.b),(iI x.op),(sL E x.kids.length O)])] H fun v H'=> ∃(o:Bool) (F':Fz),Fz.le F F'/\HS (.of H []) F' H' [] R/\v= .bool o/\o=zrE x:=by refine av Tryz.func137 V V (ai 1 V (ab (bc (aX hs V V) V V ?_)));rintro _ H2 _ ⟨b1,rfl,A,_⟩;refine za (.bool false) (ag 2 V (bH 1 2 26 [] [(2,(.bool (((((x.kind==0)&&(x.n==0))&&(x.name.b==([]:List UInt8)))&&(x.op==0))&&((x.kids.length:Int)==0))))] (Hr_ 1 0 (dK 5 (fun _=>(ql 2 1 (h_ A V) V V)) (dK 10 (fun _=>(ql 9 2 (h_ A V) V V)) (dK 15 (fun _=>(ql 3 3 (h_ A V) V V)) (dK 20 (fun _=>(ql 44 4 (h_ A V) V V)) Hn_))))) A V V fun _=>ae ⟨.inr V,_,V,(((((x.kind==0)&&(x.n==0))&&(x.name.b==([]:List UInt8)))&&(x.op==0))&&((x.kids.length:Int)==0)),_,fR,(HS.forget A),V,k_⟩))
theorem gJ(s:List UInt8)(hs:HS (.of H []) F H [] R)(hl:s.length<4611686018427387904):kKt ex 90 [(tX s)] H fun v H'=> ∃(o:Bool) (F':Fz),Fz.le F F'/\HS (.of H []) F' H' [] R/\v= .bool o/\o=vnK s:=by
 refine av Tryz.func90 V V (ai 1 V (wT 2 [] 2 2 [] [(2,(.bool false))] V fun _=>ab (zm (tX s) (zc (l1.scan_c ex s (HS.call hs) M) ?_))));rintro _ H2 ⟨a5,a6,l2,p2,e2,F2,E,a3,rfl,a0,bt,bw,rfl,rfl⟩;replace a3:=HS.back hs V a3;refine bV 3 2 8 9 [5] [(8,(sL a5 ((cm s).1).length a6)),(9,(aG [(iI (ErrT.mk (cm s).2.1 (cm s).2.2).why),(iI (ErrT.mk (cm s).2.1 (cm s).2.2).at_)]))] Hn_ (by kernel_rfl) V fun _=>zn a3 V fun b4 H5 bF=>sgo 2 6 1 0 [3] [(3,(sL a5 ((cm s).1).length a6))] (Hr_ 7 1 Hn_) bF V V fun b3 H6 A=>ag 3 V ?_
 obtain⟨b2,a4⟩:=Sv.view (OS.sv a0 A (i:=0) V);obtain⟨b0,b1⟩:=Token.fx (a4 0);refine bH 1 10 32 [] [(32,(.bool (((((ErrT.mk (cm s).2.1 (cm s).2.2).why !=0)||((((cm s).1).length:Int) !=1))||((((cm s).1).getD 0 default).kind !=1))||((((cm s).1).getD 0 default).text.b !=s))))] (Hr_ 1 1 (Ha_ (fun(g1:(((ErrT.mk (cm s).2.1 (cm s).2.2).why !=0)||((((cm s).1).length:Int) !=1))=false)=>(Sv.ix (j:=0) (OS.sv a0 A (i:=0) V) e_ (by(try simp only[BS]at g1);(first|omega|(dsimp only;omega))))) (dK 12 (fun g1=>(ql 3 0 (Token.vw (a4 0) (by(try simp only[BS]at g1);(first|omega|(dsimp only;omega)))) V V)) (Ha_ (fun(g1:((((ErrT.mk (cm s).2.1 (cm s).2.2).why !=0)||((((cm s).1).length:Int) !=1))||((((cm s).1).getD 0 default).kind !=1))=false)=>(Sv.ix (j:=0) (OS.sv a0 A (i:=0) V) e_ (by(try simp only[BS]at g1);(first|omega|(dsimp only;omega))))) (dK 19 (fun g1=>(ql 9 1 (Token.vw (a4 0) (by(try simp only[BS]at g1);(first|omega|(dsimp only;omega)))) V V)) Hn_))))) A V V fun _=>zi 1 3 (fun a1=>?_) fun a1=>?_
 ·try simp only[BS]at a1
  refine wT 1 [] 2 2 [] [(2,(.bool false))] V fun _=>ae ⟨.inr V,_,V,false,_,(E),(HS.forget A),V,(by(unfold vnK scK rsK;grind))⟩
 try simp only[BS]at a1
 refine wT 4 [] 33 33 [] [(33,(tX s))] V fun _=>wT 1 [] 34 35 [] [(34,(.bool (s==([97,114,114,97,121]:List UInt8))))] V fun _=>zi 1 1 (fun O=>?_) fun O=>?_
 ·have a7:=O;try simp only[BS]at a7
  refine bI 1 (v:=(s==([97,114,114,97,121]:List UInt8))) V O V V (wT 1 [] 2 2 [] [(2,(.bool false))] V fun _=>ae ⟨.inr V,_,V,false,_,(E),(HS.forget A),V,(by(unfold vnK;simp_all[scK,rsK];done))⟩)
 refine wT 1 [] 34 36 [] [(34,(.bool (s==([102,117,110,99]:List UInt8))))] V fun _=>zi 1 1 (fun U=>?_) fun U=>?_
 ·have a8:=U;try simp only[BS]at a8
  refine bI 1 (v:=(s==([102,117,110,99]:List UInt8))) V U V V (wT 1 [] 2 2 [] [(2,(.bool false))] V fun _=>ae ⟨.inr V,_,V,false,_,(E),(HS.forget A),V,(by(unfold vnK;simp_all[scK,rsK];done))⟩)
 refine wT 1 [] 34 37 [] [(34,(.bool (s==([118,97,114]:List UInt8))))] V fun _=>zi 1 1 (fun a_=>?_) fun a_=>?_
 ·have a9:=a_;try simp only[BS]at a9
  refine bI 1 (v:=(s==([118,97,114]:List UInt8))) V a_ V V (wT 1 [] 2 2 [] [(2,(.bool false))] V fun _=>ae ⟨.inr V,_,V,false,_,(E),(HS.forget A),V,(by(unfold vnK;simp_all[scK,rsK];done))⟩)
 refine wT 1 [] 34 38 [] [(34,(.bool (s==([114,101,116,117,114,110]:List UInt8))))] V fun _=>zi 1 1 (fun Z=>?_) fun Z=>?_
 ·have ba:=Z;try simp only[BS]at ba
  refine bI 1 (v:=(s==([114,101,116,117,114,110]:List UInt8))) V Z V V (wT 1 [] 2 2 [] [(2,(.bool false))] V fun _=>ae ⟨.inr V,_,V,false,_,(E),(HS.forget A),V,(by(unfold vnK;simp_all[scK,rsK];done))⟩)
 refine wT 1 [] 34 39 [] [(34,(.bool (s==([105,102]:List UInt8))))] V fun _=>zi 1 1 (fun al=>?_) fun al=>?_
 ·have bb:=al;try simp only[BS]at bb
  refine bI 1 (v:=(s==([105,102]:List UInt8))) V al V V (wT 1 [] 2 2 [] [(2,(.bool false))] V fun _=>ae ⟨.inr V,_,V,false,_,(E),(HS.forget A),V,(by(unfold vnK;simp_all[scK,rsK];done))⟩)
 refine wT 1 [] 34 40 [] [(34,(.bool (s==([101,108,115,101]:List UInt8))))] V fun _=>zi 1 1 (fun an=>?_) fun an=>?_
 ·have bf:=an;try simp only[BS]at bf
  refine bI 1 (v:=(s==([101,108,115,101]:List UInt8))) V an V V (wT 1 [] 2 2 [] [(2,(.bool false))] V fun _=>ae ⟨.inr V,_,V,false,_,(E),(HS.forget A),V,(by(unfold vnK;simp_all[scK,rsK];done))⟩)
 refine wT 1 [] 34 41 [] [(34,(.bool (s==([119,104,105,108,101]:List UInt8))))] V fun _=>zi 1 1 (fun ar=>?_) fun ar=>?_
 ·have bl:=ar;try simp only[BS]at bl
  refine bI 1 (v:=(s==([119,104,105,108,101]:List UInt8))) V ar V V (wT 1 [] 2 2 [] [(2,(.bool false))] V fun _=>ae ⟨.inr V,_,V,false,_,(E),(HS.forget A),V,(by(unfold vnK;simp_all[scK,rsK];done))⟩)
 refine wT 1 [] 34 42 [] [(34,(.bool (s==([111,117,116]:List UInt8))))] V fun _=>zi 1 0 (fun ax=>?_) fun ax=>?_
 ·have bn:=ax;try simp only[BS]at bn
  refine bI 1 (v:=(s==([111,117,116]:List UInt8))) V ax V V (wT 1 [] 2 2 [] [(2,(.bool false))] V fun _=>ae ⟨.inr V,_,V,false,_,(E),(HS.forget A),V,(by(unfold vnK;simp_all[scK,rsK];done))⟩)
 refine wT 1 [] 34 43 [] [(34,(.bool (s==([116,114,97,112]:List UInt8))))] V fun _=>zi 1 3 (fun a2=>?_) fun a2=>?_
 ·try simp only[BS]at a2
  refine wT 1 [] 2 2 [] [(2,(.bool false))] V fun _=>ae ⟨.inr V,_,V,false,_,(E),(HS.forget A),V,(by(unfold vnK;simp_all[scK,rsK];done))⟩
 try simp only[BS]at a2
 refine wT 1 [] 2 2 [] [(2,(.bool true))] V fun _=>ae ⟨.inr V,_,V,true,_,(E),(HS.forget A),V,(by(unfold vnK;simp_all[scK,rsK];done))⟩
theorem vnames5_c{al:Option Addr}{ax:Nat}(l:List Str)(hs:HS (.of H []) F H [] R)(hl:SR F (sL al l.length ax) l)(hv: ∀i,i<l.length->(l.getD i default).b.length<4611686018427387904)(hn:l.length<4611686018427387904):kKt ex 91 [(sL al l.length ax)] H fun v H'=> ∃(o:Bool) (F':Fz),Fz.le F F'/\HS (.of H []) F' H' [] R/\v= .bool o/\o=l.all (fun s=>vnK s.b):=by
 refine av Tryz.func91 V V (ai 1 V (wT 3 [] 2 2 [] [(2,(.bool false))] V fun _=>wT 2 [] 5 7 [] [(5,(sL al l.length ax)),(6,(iI (l.length:Int))),(7,(iI 0))] V fun _=>aj (fun(mm:Nat) f H'=> ∃(i:Nat) (F':Fz),Fz.le F F'/\HS (Base.of H []) F' H' [] R/\aC f [(5,(sL al l.length ax)),(6,(iI (l.length:Int))),(7,(iI (i:Int)))]/\mm=l.length-i/\(l.all (fun s=>vnK s.b)=(l.drop i).all (fun s=>vnK s.b))/\(i<=l.length)) _ ⟨0,_,fR,hs,⟨V,V,V,trivial⟩,V,k_,M⟩ ?_));rintro a0 f3 H3 ⟨i,F3,O,E,Z,rfl,h1,hi⟩ ar;refine ap _ Z (fun _=>?_);clear Z;replace hl:=hl.mono O;refine ai 1 V (wT 2 [] 8 8 [] [(8,(.bool (decide ((i:Int)<(l.length:Int)))))] V fun _=>zd 4 5 (fun c5=>?_) fun c5=>?_)
 ·obtain⟨aA,an⟩:=Sv.view (SR.sv hl E);refine wrp 2 9 10 [4] [(4,(tX (l.getD i default).b))] (Ha_ (Sv.ix (j:=(i:Int)) (SR.sv hl E)) (Hl_ 1 (ql 9 0 (vS (an i)) V V) Hn_)) (by kernel_rfl) V fun _=>ab (zm (tX (l.getD i default).b) (zc (gJ ex (l.getD i default).b (HS.call E) (hv i M)) ?_))
  rintro _ H9 ⟨o9,F9,a_,U,rfl,rfl⟩;replace U:=HS.back E V U;refine wTo 1 2 [] 13 13 [] [(13,(.bool (!(vnK (l.getD i default).b))))] V fun _=>ag 1 V (zi 1 2 (fun A=>?_) fun A=>?_)
  ·try simp only[BS]at A
   have a2:=jT (p:=fun s:Str=>vnK s.b) (l:=l) (i:=i) M (by simpa using A);refine wT 1 [] 2 2 [] [(2,(.bool false))] V fun _=>ae ⟨.inr V,_,V,false,_,(fT (O) a_),(HS.forget U),V,(h1.trans a2).symm⟩
  try simp only[BS]at A
  have a3:=lE (p:=fun s:Str=>vnK s.b) (l:=l) (i:=i) M (by simpa using A);refine wU 1 [] 7 7 [14] [(7,(iI ((i:Int)+1)))] (vi (n:=(i:Int)+1)) V fun _=>?_
  refine ar _ _ _ ?_ ⟨i+1,_,(fT (O) a_),U,⟨V,V,V,trivial⟩,V,(h1.trans a3),M⟩;omega
 refine wT 1 [] 2 2 [] [(2,(.bool true))] V fun _=>ae ⟨.inr V,_,V,true,_,(O),(HS.forget E),V,(h1.trans (by rw[dre5 M];rfl)).symm⟩
theorem wfexpr5_c{E:Option Addr}{Z:Nat}(x:ExpT)(d:Int)(hs:HS (.of H []) F H [] R)(a5:in64 x.kind)(a6:in64 x.n)(a7:in64 x.op)(a8:SR F (sL E x.kids.length Z) x.kids)(hx:nmE x):kKt ex 93 [(aG [(iI x.kind),(iI x.n),(tX x.name.b),(iI x.op),(sL E x.kids.length Z)]),(iI d)] H fun v H'=> ∃(o:Bool) (F':Fz),Fz.le F F'/\HS (.of H []) F' H' [] R/\v= .bool o/\o=wxE x:=by
 obtain⟨al,bl⟩:=nm_e hx;refine av Tryz.func93 V V (ai 1 V (ab (bc (aX hs V V) V V ?_)));rintro _ H2 _ ⟨b1,rfl,A,_⟩;refine za (.bool false) (ag 2 V (wT 3 [] 1 0 [5] [(5,(iI 0))] V fun _=>bH 3 6 7 [] [(7,(iI x.kind))] (Hr_ 1 0 Hn_) A V V fun _=>wT 1 [] 8 9 [] [(8,(.bool (x.kind==1)))] V fun _=>zi 1 1 (fun c6=>?_) fun c6=>?_))
 ·try simp only[BS]at c6
  refine bH 1 10 23 [4] [(4,(.bool (((x.name.b==([]:List UInt8))&&(x.op==0))&&((x.kids.length:Int)==0))))] (Hr_ 1 0 (dK 5 (fun _=>(ql 3 3 (h_ A V) V V)) (dK 10 (fun _=>(ql 44 4 (h_ A V) V V)) Hn_))) A V V fun _=>ae ⟨.inr V,_,V,(((x.name.b==([]:List UInt8))&&(x.op==0))&&((x.kids.length:Int)==0)),_,fR,(HS.forget A),V,(by unfold wxE;simp_all)⟩
 try simp only[BS]at c6
 refine wT 1 [] 24 25 [] [(24,(.bool (x.kind==2)))] V fun _=>zi 3 1 (fun c9=>?_) fun c9=>?_
 ·try simp only[BS]at c9
  refine sj 1 67 86 [4] [(4,(.bool ((((x.n==0)&&(x.op==0))&&((x.kids.length:Int)==0))&&vnK x.name.b)))] (Hr_ 1 0 (cI 5 (fun _=>(jl A 3 3 0 V V V)) (cI 10 (fun _=>(jl A 44 4 0 V V V)) (cI 17 (fun _=>(jl A 9 2 0 V V V)) (fX 18 (fun _=>(jc A fun _ _ _ q=>gJ ex x.name.b q (al))) Hn_))))) A V V fun a3 bb a9 ax a0=>?_
  refine ae ⟨.inr V,_,V,((((x.n==0)&&(x.op==0))&&((x.kids.length:Int)==0))&&vnK x.name.b),_,(ax),(HS.forget a0),V,(by unfold wxE;simp_all)⟩
 try simp only[BS]at c9
 refine wT 1 [] 26 27 [] [(26,(.bool (x.kind==3)))] V fun _=>zi 0 1 (fun O=>?_) fun O=>?_
 ·try simp only[BS]at O
  refine wT 3 [] 1 0 [5] [(5,(iI 1))] V fun _=>sj 1 67 86 [4] [(4,(.bool ((((x.n==0)&&(x.op==0))&&((x.kids.length:Int)==1))&&vnK x.name.b)))] (Hr_ 1 0 (cI 5 (fun _=>(jl A 3 3 0 V V V)) (cI 10 (fun _=>(jl A 44 4 0 V V V)) (cI 17 (fun _=>(jl A 9 2 0 V V V)) (fX 18 (fun _=>(jc A fun _ _ _ q=>gJ ex x.name.b q (al))) Hn_))))) A V V fun a4 bf ba aA a1=>?_
  refine ae ⟨.inr V,_,V,((((x.n==0)&&(x.op==0))&&((x.kids.length:Int)==1))&&vnK x.name.b),_,(aA),(HS.forget a1),V,(by unfold wxE;simp_all)⟩
 try simp only[BS]at O
 refine wT 1 [] 28 29 [] [(28,(.bool (x.kind==5)))] V fun _=>zi 1 1 (fun U=>?_) fun U=>?_
 ·try simp only[BS]at U
  refine bH 1 30 48 [4] [(4,(.bool ((((x.n==0)&&(x.name.b==([]:List UInt8)))&&(x.op==0))&&((x.kids.length:Int)==3))))] (Hr_ 1 0 (dK 5 (fun _=>(ql 9 2 (h_ A V) V V)) (dK 10 (fun _=>(ql 3 3 (h_ A V) V V)) (dK 15 (fun _=>(ql 44 4 (h_ A V) V V)) Hn_)))) A V V fun _=>ae ⟨.inr V,_,V,((((x.n==0)&&(x.name.b==([]:List UInt8)))&&(x.op==0))&&((x.kids.length:Int)==3)),_,fR,(HS.forget A),V,(by unfold wxE;simp_all)⟩
 try simp only[BS]at U
 refine wT 1 [] 49 50 [] [(49,(.bool (x.kind==4)))] V fun _=>zi 1 1 (fun a_=>?_) fun a_=>?_
 ·try simp only[BS]at a_
  refine bH 1 51 66 [4] [(4,(.bool (((x.n==0)&&(x.name.b==([]:List UInt8)))&&opK5 x.op (x.kids.length:Int))))] (Hr_ 1 0 (dK 5 (fun _=>(ql 9 2 (h_ A V) V V)) (dK 10 (fun _=>(ql 3 3 (h_ A V) V V)) (dK 12 (fun _=>(ql 44 4 (h_ A V) V V)) (Hc1_ 14 (fun _=>(validop_c_q ex x.op (x.kids.length:Int) H2)) Hn_))))) A V V fun _=>ae ⟨.inr V,_,V,(((x.n==0)&&(x.name.b==([]:List UInt8)))&&opK5 x.op (x.kids.length:Int)),_,fR,(HS.forget A),V,(by unfold wxE;simp_all)⟩
 try simp only[BS]at a_
 refine wT 1 [] 4 4 [] [(4,(.bool false))] V fun _=>ae ⟨.inr V,_,V,false,_,fR,(HS.forget A),V,(by unfold wxE;simp_all)⟩
theorem fields_c(k:Int)(hs:HS (.of H []) F H [] R):kKt ex 123 [(iI k)] H fun v H'=> ∃(w:FdT) (o:Bool) (F':Fz),Fz.le F F'/\HS (.of H []) F' H' [] R/\v= .tuple ⟨[.agg ⟨[.bool w.name,.bool w.to,.bool w.n,.bool w.at_,.bool w.val,.bool w.args,.bool w.thn,.bool w.els]⟩,.bool o]⟩/\w=fdK k/\o=fdO k:=by
 refine av Tryz.func123 V V (ai 1 V (ab (zn hs V fun b1 H2 A=>za (.bool false) (ag 3 V ?_))));refine wT 3 [] 4 4 [] [(4,(iI k))] V fun _=>wT 1 [] 5 6 [] [(5,(.bool (k==1)))] V fun _=>zi 1 1 (fun c5=>?_) fun c5=>?_
 ·try simp only[BS]at c5
  refine sgr 1 3 3 [7] [(3,(.bool true))] (Hr_ 1 0 Hn_) A V V fun bF H6 a1=>ae ⟨.inr V,_,(rC V (dy V V (h_ a1 V) V) (rT V rN)),(⟨true,false,false,false,true,false,false,false⟩:FdT),true,_,fR,(HS.forget a1),V,(by(unfold fdK;simp_all;done)),(by(unfold fdO;simp_all;done))⟩
 try simp only[BS]at c5
 refine wT 1 [] 8 9 [] [(8,(.bool (k==2)))] V fun _=>zi 1 1 (fun c8=>?_) fun c8=>?_
 ·try simp only[BS]at c8
  refine sgr 1 3 3 [10] [(3,(.bool true))] (Hr_ 1 0 Hn_) A V V fun b0 H9 a2=>ae ⟨.inr V,_,(rC V (dy V V (h_ a2 V) V) (rT V rN)),(⟨true,false,false,true,true,false,false,false⟩:FdT),true,_,fR,(HS.forget a2),V,(by(unfold fdK;simp_all;done)),(by(unfold fdO;simp_all;done))⟩
 try simp only[BS]at c8
 refine wT 1 [] 11 12 [] [(11,(.bool (k==3)))] V fun _=>zi 1 1 (fun E=>?_) fun E=>?_
 ·try simp only[BS]at E
  refine sgr 1 3 3 [13] [(3,(.bool true))] (Hr_ 1 0 Hn_) A V V fun a5 bb al=>ae ⟨.inr V,_,(rC V (dy V V (h_ al V) V) (rT V rN)),(⟨false,false,false,false,true,false,true,true⟩:FdT),true,_,fR,(HS.forget al),V,(by(unfold fdK;simp_all;done)),(by(unfold fdO;simp_all;done))⟩
 try simp only[BS]at E
 refine wT 1 [] 14 15 [] [(14,(.bool (k==4)))] V fun _=>zi 1 1 (fun O=>?_) fun O=>?_
 ·try simp only[BS]at O
  refine sgr 1 3 3 [16] [(3,(.bool true))] (Hr_ 1 0 Hn_) A V V fun a6 bf an=>ae ⟨.inr V,_,(rC V (dy V V (h_ an V) V) (rT V rN)),(⟨false,false,false,false,true,false,true,false⟩:FdT),true,_,fR,(HS.forget an),V,(by(unfold fdK;simp_all;done)),(by(unfold fdO;simp_all;done))⟩
 try simp only[BS]at O
 refine wT 1 [] 17 18 [] [(17,(.bool (k==5)))] V fun _=>zi 1 1 (fun U=>?_) fun U=>?_
 ·try simp only[BS]at U
  refine sgr 1 3 3 [19] [(3,(.bool true))] (Hr_ 1 0 Hn_) A V V fun a7 bl ar=>ae ⟨.inr V,_,(rC V (dy V V (h_ ar V) V) (rT V rN)),(⟨false,false,false,false,true,false,false,false⟩:FdT),true,_,fR,(HS.forget ar),V,(by(unfold fdK;simp_all;done)),(by(unfold fdO;simp_all;done))⟩
 try simp only[BS]at U
 refine wT 1 [] 20 21 [] [(20,(.bool (k==6)))] V fun _=>zi 1 1 (fun a_=>?_) fun a_=>?_
 ·try simp only[BS]at a_
  refine sgr 1 3 3 [22] [(3,(.bool true))] (Hr_ 1 0 Hn_) A V V fun a8 bn ax=>ae ⟨.inr V,_,(rC V (dy V V (h_ ax V) V) (rT V rN)),(⟨true,true,false,false,false,true,false,false⟩:FdT),true,_,fR,(HS.forget ax),V,(by(unfold fdK;simp_all;done)),(by(unfold fdO;simp_all;done))⟩
 try simp only[BS]at a_
 refine wT 1 [] 23 24 [] [(23,(.bool (k==7)))] V fun _=>zi 1 3 (fun Z=>?_) fun Z=>?_
 ·try simp only[BS]at Z
  refine sgr 1 3 3 [25] [(3,(.bool true))] (Hr_ 1 0 Hn_) A V V fun a9 bt aA=>ae ⟨.inr V,_,(rC V (dy V V (h_ aA V) V) (rT V rN)),(⟨false,false,true,false,false,false,false,false⟩:FdT),true,_,fR,(HS.forget aA),V,(by(unfold fdK;simp_all;done)),(by(unfold fdO;simp_all;done))⟩
 try simp only[BS]at Z
 refine sgr 1 3 3 [26] [(3,(.bool false))] (Hr_ 1 0 Hn_) A V V fun ba bw a0=>ae ⟨.inr V,_,(rC V (dy V V (h_ a0 V) V) (rT V rN)),(⟨false,false,false,false,false,false,false,false⟩:FdT),false,_,fR,(HS.forget a0),V,(by(unfold fdK;simp_all;done)),(by(unfold fdO;simp;omega))⟩
theorem namef_c(s:List UInt8)(w:Bool)(hs:HS (.of H []) F H [] R)(hl:s.length<4611686018427387904):kKt ex 124 [(tX s),(.bool w)] H fun v H'=> ∃(o:Bool) (F':Fz),Fz.le F F'/\HS (.of H []) F' H' [] R/\v= .bool o/\o=nmF s w:=by
 refine av Tryz.func124 V V (ai 1 V (wT 3 [] 4 4 [] [(4,(.bool false))] V fun _=>wT 1 [] 5 5 [] [(5,(.bool w))] V fun _=>zi 1 2 (fun E=>?_) fun E=>?_))
 ·try simp only[BS]at E
  refine ab (zm (tX s) (zc (gJ ex s (HS.call hs) M) ?_));rintro _ a_ ⟨Z,U,O,A,rfl,rfl⟩;replace A:=HS.back hs V A;refine za (.bool (vnK s)) (ag 1 V (ae ⟨.inr V,_,V,vnK s,_,(O),(HS.forget A),V,(by unfold nmF;simp_all)⟩))
 try simp only[BS]at E
 refine wT 1 [] 8 9 [4] [(4,(.bool (s==([]:List UInt8))))] V fun _=>ae ⟨.inr V,_,V,(s==([]:List UInt8)),_,fR,(HS.forget hs),V,(by unfold nmF;simp_all)⟩
end Go.Proofs.YtkpgbdkkgcdhmaaGreat.da
