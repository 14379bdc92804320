/-
What the checker of the program looks at: names, operators, single expressions. No condition but that names have less than 2^62 bytes.
-/
import Derived.Test.YtkpgbdkkgcdhmaaGreatZPL1
import Derived.Test.YtkpgbdkkgcdhmaaGreatZPPT
noncomputable section
namespace Go.Proofs.YtkpgbdkkgcdhmaaGreat.da
open Go.R
set_option maxRecDepth 10000
set_option linter.unusedVariables false
set_option linter.unusedSimpArgs false
variable (ex:FuncId) {F:Fz} {H:Heap} {R:List Fp}
open w3 l1 pt
theorem jl{B:Base}{F:Fz}{L R:List Fp}{H:Heap}(hs:HS B F H L R){b:Nat}{cs:List Value}{w:Value}(t:TypeId)(i j:Nat)(ha:eJ Tryz.prog t=some false)(h:L[j]?=some [(b,.cells cs none false)])(A:cs[i]?=some w): ∀H,JJ B F L R H->LDv Tryz.prog H t (pT b i) w:=jl0 hs t i j ha h A
theorem jn{B:Base}{F:Fz}{L R:List Fp}{H:Heap}(hs:HS B F H L R){b:Nat}{cs l:List Value}(t:TypeId)(i n j:Nat)(ha:eJ Tryz.prog t=some true)(O:di Tryz.prog t=some n)(h:L[j]?=some [(b,.cells cs none false)])(E:Nat.ble (i+n) cs.length=true)(A:fN (gy cs i) n=l): ∀H,JJ B F L R H->LDv Tryz.prog H t (pT b i) (.agg ⟨l⟩):=jn0 hs t i n j ha O h E A
structure FdT where
 name:Bool
 to:Bool
 n:Bool
 at_:Bool
 val:Bool
 args:Bool
 thn:Bool
 els:Bool
 deriving Inhabited
instance :Rp FdT where
 sz:=8
 rep F cs x:=cs=[.bool x.name,.bool x.to,.bool x.n,.bool x.at_,.bool x.val,.bool x.args,.bool x.thn,.bool x.els]
 len:=by rintro F cs x rfl;rfl
 one:=by rintro F cs x rfl;rfl
 mono:=by intro F F' cs x _ h;exact h
mutual
def nmE:ExpT->Prop
 |⟨_,_,nm,_,ks⟩=>nm.b.length<4611686018427387904/\nmEs ks
def nmEs:List ExpT->Prop
 | []=>True
 |e::l=>nmE e/\nmEs l
end
theorem nm_e{e:ExpT}(h:nmE e):e.name.b.length<4611686018427387904/\nmEs e.kids:=by cases e;rwa [nmE]at h
theorem nm_at: ∀{l:List ExpT} {i:Nat},nmEs l->i<l.length->nmE (l.getD i default)
 |e::l,0,h,_=>by rw[nmEs]at h;exact h.1
 |e::l,i+1,h,hi=>by rw[nmEs]at h;exact nm_at (l:=l) h.2 (by simpa using hi)
theorem drp5{α:Type}{l:List α}{i:Nat}{d:α}(h:i<l.length):l.drop i=l.getD i d::l.drop (i+1):=by rw[a0G h,a09,a08 h];rfl
theorem dre5{α:Type}{l:List α}{i:Nat}(h:l.length<=i):l.drop i=[]:=a0T h
theorem kr{α:Type} [Inhabited α]{p:α->Bool}{l:List α}{i:Nat}(h:i<l.length)(c:p (l.getD i default)=true):(l.drop i).all p=(l.drop (i+1)).all p:=by rw[drp5 (d:=default) h,a0s,c];rfl
theorem jg{α:Type} [Inhabited α]{p:α->Bool}{l:List α}{i:Nat}(h:i<l.length)(c:p (l.getD i default)=false):(l.drop i).all p=false:=by rw[drp5 (d:=default) h,a0s,c];rfl
def fdK(k:Int):FdT:=if k=1 then⟨true,false,false,false,true,false,false,false⟩ else if k=2 then⟨true,false,false,true,true,false,false,false⟩ else if k=3 then⟨false,false,false,false,true,false,true,true⟩ else if k=4 then⟨false,false,false,false,true,false,true,false⟩ else if k=5 then⟨false,false,false,false,true,false,false,false⟩ else if k=6 then⟨true,true,false,false,false,true,false,false⟩ else if k=7 then⟨false,false,true,false,false,false,false,false⟩ else⟨false,false,false,false,false,false,false,false⟩
def fdO(k:Int):Bool:=decide (1<=k)&&decide (k<=7)
def opK5(k n:Int):Bool:=if((k==20)||(k==21))=true then(n==1) else(((decide ((4:Int)<=k))&&(decide (k<=18)))&&(n==2))
def zrE(x:ExpT):Bool:=((((x.kind==0)&&(x.n==0))&&(x.name.b==[]))&&(x.op==0))&&((x.kids.length:Int)==0)
def rsK(s:List UInt8):Bool:=(s==[97,114,114,97,121])||(s==[102,117,110,99])||(s==[118,97,114])||(s==[114,101,116,117,114,110])||(s==[105,102])||(s==[101,108,115,101])||(s==[119,104,105,108,101])||(s==[111,117,116])||(s==[116,114,97,112])
def scK(s:List UInt8):Bool:=((((aB s).2.1 !=0)||(((aB s).1.length:Int) !=1))||(((aB s).1.getD 0 default).kind !=1))||(((aB s).1.getD 0 default).text.b !=s)
def vnK(s:List UInt8):Bool:= !scK s&& !rsK s
def nmF(s:List UInt8)(w:Bool):Bool:=if w=true then vnK s else(s==[])
def wxE(x:ExpT):Bool:=
 if x.kind=1 then((x.name.b==[])&&(x.op==0))&&((x.kids.length:Int)==0)
 else if x.kind=5 then(((x.n==0)&&(x.name.b==[]))&&(x.op==0))&&((x.kids.length:Int)==3)
 else if x.kind=4 then((x.n==0)&&(x.name.b==[]))&&opK5 x.op (x.kids.length:Int)
 else if x.kind=2 then(((x.n==0)&&(x.op==0))&&((x.kids.length:Int)==0))&&vnK x.name.b
 else if x.kind=3 then(((x.n==0)&&(x.op==0))&&((x.kids.length:Int)==1))&&vnK x.name.b
 else false
theorem validop_c(k:Int)(n:Int)(H:Heap):kKt ex 122 [(iI k),(iI n)] H fun v H'=> ∃(o:Bool),H'=H/\v= .bool o/\o=opK5 k n:=by
 refine av Tryz.func122 rfl rfl (aj 1 rfl (wT 3 [] 4 4 [] [(4,(.bool false))] rfl fun _=>wT 1 [] 5 10 [] [(10,(.bool ((k==20)||(k==21))))] rfl fun _=>zi 1 2 (fun A=>?_) fun A=>?_))
 ·try simp only[BS]at A
  refine wT 1 [] 11 12 [4] [(4,(.bool (n==1)))] rfl fun _=>ae ⟨.inr rfl,_,rfl,(n==1),rfl,rfl,(by unfold opK5;simp_all)⟩
 try simp only[BS]at A
 refine wT 1 [] 13 22 [4] [(4,(.bool (((decide ((4:Int)<=k))&&(decide (k<=18)))&&(n==2))))] rfl fun _=>ae ⟨.inr rfl,_,rfl,(((decide ((4:Int)<=k))&&(decide (k<=18)))&&(n==2)),rfl,rfl,(by unfold opK5;simp_all)⟩
theorem validop_c_q(k:Int)(n:Int)(H:Heap):kKt ex 122 [(iI k),(iI n)] H fun v H'=>v=(.bool (opK5 k n))/\H'=H:=
 cq (validop_c ex k n H) (by rintro _ _ ⟨_,rfl,rfl,rfl⟩;exact⟨rfl,rfl⟩)
theorem iszero5_c{E:Option Addr}{O:Nat}(x:ExpT)(hs:HS (.of H []) F H [] R)(V:in64 x.kind)(Y:in64 x.n)(Z:in64 x.op)(al:SR F (sL E x.kids.length O) x.kids):kKt ex 137 [(aG [(iI x.kind),(iI x.n),(.string ⟨⟨x.name.b⟩⟩),(iI x.op),(sL E x.kids.length O)])] H fun v H'=> ∃(o:Bool) (F':Fz),Fz.le F F'/\HS (.of H []) F' H' [] R/\v= .bool o/\o=zrE x:=by refine av Tryz.func137 rfl rfl (aj 1 rfl (ab (aw (bX hs rfl rfl) rfl rfl ?_)));rintro _ H2 _ ⟨U,rfl,(A:HS _ _ _ [(fP U [(iI x.kind),(iI x.n),(.string ⟨⟨x.name.b⟩⟩),(iI x.op),(sL E x.kids.length O)])] _),_⟩;refine za (.bool false) (ad 2 rfl (wR 1 [(1,.o (iI x.kind)),(5,.o (iI x.n)),(10,.o (.string ⟨⟨x.name.b⟩⟩)),(15,.o (iI x.op)),(20,.o (sL E x.kids.length O))] 2 26 [] [(2,(.bool (((((x.kind==0)&&(x.n==0))&&(x.name.b==([]:List UInt8)))&&(x.op==0))&&((x.kids.length:Int)==0))))] (vA (ql 3 0 (HS.hc A (i:=0) rfl) rfl rfl) (vA (fun(T:(x.kind==0)=true)=>(ql 2 1 (HS.hc A (i:=0) rfl) rfl rfl)) (vA (fun(T:((x.kind==0)&&(x.n==0))=true)=>(ql 9 2 (HS.hc A (i:=0) rfl) rfl rfl)) (vA (fun(T:(((x.kind==0)&&(x.n==0))&&(x.name.b==([]:List UInt8)))=true)=>(ql 3 3 (HS.hc A (i:=0) rfl) rfl rfl)) (vA (fun(T:((((x.kind==0)&&(x.n==0))&&(x.name.b==([]:List UInt8)))&&(x.op==0))=true)=>(ql 44 4 (HS.hc A (i:=0) rfl) rfl rfl)) trivial))))) rfl fun _=>ae ⟨.inr rfl,_,rfl,(((((x.kind==0)&&(x.n==0))&&(x.name.b==([]:List UInt8)))&&(x.op==0))&&((x.kids.length:Int)==0)),_,fR,(HS.forget A),rfl,(by rfl)⟩))
theorem gn(s:List UInt8)(hs:HS (.of H []) F H [] R)(hl:s.length<4611686018427387904):kKt ex 90 [(.string ⟨⟨s⟩⟩)] H fun v H'=> ∃(o:Bool) (F':Fz),Fz.le F F'/\HS (.of H []) F' H' [] R/\v= .bool o/\o=vnK s:=by
 refine av Tryz.func90 rfl rfl (aj 1 rfl (wT 2 [] 2 2 [] [(2,(.bool false))] rfl fun _=>ab (zm (.string ⟨⟨s⟩⟩) (zc (l1.scan_c ex s (HS.call hs) (by omega)) ?_))));rintro _ H2 ⟨a5,a6,l2,p2,e2,F2,E,a3,rfl,ax,bt,bw,rfl,rfl⟩;replace a3:HS _ _ _ [p2] _:=HS.back hs rfl a3;refine wTo 3 2 [] 8 9 [5] [(8,(sL a5 ((aB s).1).length a6)),(9,(aG [(iI (ErrT.mk (aB s).2.1 (aB s).2.2).why),(iI (ErrT.mk (aB s).2.1 (aB s).2.2).at_)]))] rfl fun _=>aw (aH a3 rfl) rfl rfl ?_
 rintro _ H5 _ ⟨b4,rfl,(b0:HS _ _ _ [_,(fP b4 [(iI 0),(iI 0)])] _),_⟩;refine za (sL a5 ((aB s).1).length a6) (ay (am (q:=1) b0 rfl rfl rfl rfl rfl rfl rfl rfl rfl) rfl ?_);rintro _ H6 _ ⟨(A:HS _ _ _ [_,(fP b4 [(iI (ErrT.mk (aB s).2.1 (aB s).2.2).why),(iI (ErrT.mk (aB s).2.1 (aB s).2.2).at_)])] _),_⟩;refine ad 3 rfl ?_;obtain⟨b5,a4⟩:=Sv.view (OS.sv ax A (i:=0) rfl);obtain⟨b1,b2⟩:=Token.fx (a4 0);refine wR 1 [(1,.o (iI (ErrT.mk (aB s).2.1 (aB s).2.2).why)),(12,.o (iI (((aB s).1).getD 0 default).kind)),(19,.o (.string ⟨⟨(((aB s).1).getD 0 default).text.b⟩⟩))] 10 32 [] [(32,(.bool (((((ErrT.mk (aB s).2.1 (aB s).2.2).why !=0)||((((aB s).1).length:Int) !=1))||((((aB s).1).getD 0 default).kind !=1))||((((aB s).1).getD 0 default).text.b !=s))))] (vA (ql 33 0 (HS.hc A (i:=1) rfl) rfl rfl) (vA (fun(g1:(((ErrT.mk (aB s).2.1 (aB s).2.2).why !=0)||((((aB s).1).length:Int) !=1))=false)=>(Sv.ix (j:=0) (OS.sv ax A (i:=0) rfl) (by decide) (by(try simp only[BS]at g1);(first|omega|(dsimp only;omega))))) (vA (fun(g1:(((ErrT.mk (aB s).2.1 (aB s).2.2).why !=0)||((((aB s).1).length:Int) !=1))=false)=>(ql 3 0 (Token.vw (a4 0) (by(try simp only[BS]at g1);(first|omega|(dsimp only;omega)))) rfl rfl)) (vA (fun(g1:((((ErrT.mk (aB s).2.1 (aB s).2.2).why !=0)||((((aB s).1).length:Int) !=1))||((((aB s).1).getD 0 default).kind !=1))=false)=>(Sv.ix (j:=0) (OS.sv ax A (i:=0) rfl) (by decide) (by(try simp only[BS]at g1);(first|omega|(dsimp only;omega))))) (vA (fun(g1:((((ErrT.mk (aB s).2.1 (aB s).2.2).why !=0)||((((aB s).1).length:Int) !=1))||((((aB s).1).getD 0 default).kind !=1))=false)=>(ql 9 1 (Token.vw (a4 0) (by(try simp only[BS]at g1);(first|omega|(dsimp only;omega)))) rfl rfl)) trivial))))) rfl fun _=>zi 1 3 (fun a1=>?_) fun a1=>?_
 ·try simp only[BS]at a1
  refine wT 1 [] 2 2 [] [(2,(.bool false))] rfl fun _=>ae ⟨.inr rfl,_,rfl,false,_,(E),(HS.forget A),rfl,(by(unfold vnK scK rsK;grind))⟩
 try simp only[BS]at a1
 refine wT 4 [] 33 33 [] [(33,(.string ⟨⟨s⟩⟩))] rfl fun _=>wT 1 [] 34 35 [] [(34,(.bool (s==([97,114,114,97,121]:List UInt8))))] rfl fun _=>zi 1 1 (fun O=>?_) fun O=>?_
 ·have a8:=O;try simp only[BS]at a8
  refine bI 1 (v:=(s==([97,114,114,97,121]:List UInt8))) rfl O rfl rfl (wT 1 [] 2 2 [] [(2,(.bool false))] rfl fun _=>ae ⟨.inr rfl,_,rfl,false,_,(E),(HS.forget A),rfl,(by(unfold vnK;simp_all[scK,rsK];done))⟩)
 refine wT 1 [] 34 36 [] [(34,(.bool (s==([102,117,110,99]:List UInt8))))] rfl fun _=>zi 1 1 (fun T=>?_) fun T=>?_
 ·have a9:=T;try simp only[BS]at a9
  refine bI 1 (v:=(s==([102,117,110,99]:List UInt8))) rfl T rfl rfl (wT 1 [] 2 2 [] [(2,(.bool false))] rfl fun _=>ae ⟨.inr rfl,_,rfl,false,_,(E),(HS.forget A),rfl,(by(unfold vnK;simp_all[scK,rsK];done))⟩)
 refine wT 1 [] 34 37 [] [(34,(.bool (s==([118,97,114]:List UInt8))))] rfl fun _=>zi 1 1 (fun U=>?_) fun U=>?_
 ·have ba:=U;try simp only[BS]at ba
  refine bI 1 (v:=(s==([118,97,114]:List UInt8))) rfl U rfl rfl (wT 1 [] 2 2 [] [(2,(.bool false))] rfl fun _=>ae ⟨.inr rfl,_,rfl,false,_,(E),(HS.forget A),rfl,(by(unfold vnK;simp_all[scK,rsK];done))⟩)
 refine wT 1 [] 34 38 [] [(34,(.bool (s==([114,101,116,117,114,110]:List UInt8))))] rfl fun _=>zi 1 1 (fun V=>?_) fun V=>?_
 ·have bb:=V;try simp only[BS]at bb
  refine bI 1 (v:=(s==([114,101,116,117,114,110]:List UInt8))) rfl V rfl rfl (wT 1 [] 2 2 [] [(2,(.bool false))] rfl fun _=>ae ⟨.inr rfl,_,rfl,false,_,(E),(HS.forget A),rfl,(by(unfold vnK;simp_all[scK,rsK];done))⟩)
 refine wT 1 [] 34 39 [] [(34,(.bool (s==([105,102]:List UInt8))))] rfl fun _=>zi 1 1 (fun Y=>?_) fun Y=>?_
 ·have bf:=Y;try simp only[BS]at bf
  refine bI 1 (v:=(s==([105,102]:List UInt8))) rfl Y rfl rfl (wT 1 [] 2 2 [] [(2,(.bool false))] rfl fun _=>ae ⟨.inr rfl,_,rfl,false,_,(E),(HS.forget A),rfl,(by(unfold vnK;simp_all[scK,rsK];done))⟩)
 refine wT 1 [] 34 40 [] [(34,(.bool (s==([101,108,115,101]:List UInt8))))] rfl fun _=>zi 1 1 (fun Z=>?_) fun Z=>?_
 ·have bk:=Z;try simp only[BS]at bk
  refine bI 1 (v:=(s==([101,108,115,101]:List UInt8))) rfl Z rfl rfl (wT 1 [] 2 2 [] [(2,(.bool false))] rfl fun _=>ae ⟨.inr rfl,_,rfl,false,_,(E),(HS.forget A),rfl,(by(unfold vnK;simp_all[scK,rsK];done))⟩)
 refine wT 1 [] 34 41 [] [(34,(.bool (s==([119,104,105,108,101]:List UInt8))))] rfl fun _=>zi 1 1 (fun al=>?_) fun al=>?_
 ·have bl:=al;try simp only[BS]at bl
  refine bI 1 (v:=(s==([119,104,105,108,101]:List UInt8))) rfl al rfl rfl (wT 1 [] 2 2 [] [(2,(.bool false))] rfl fun _=>ae ⟨.inr rfl,_,rfl,false,_,(E),(HS.forget A),rfl,(by(unfold vnK;simp_all[scK,rsK];done))⟩)
 refine wT 1 [] 34 42 [] [(34,(.bool (s==([111,117,116]:List UInt8))))] rfl fun _=>zi 1 0 (fun an=>?_) fun an=>?_
 ·have bn:=an;try simp only[BS]at bn
  refine bI 1 (v:=(s==([111,117,116]:List UInt8))) rfl an rfl rfl (wT 1 [] 2 2 [] [(2,(.bool false))] rfl fun _=>ae ⟨.inr rfl,_,rfl,false,_,(E),(HS.forget A),rfl,(by(unfold vnK;simp_all[scK,rsK];done))⟩)
 refine wT 1 [] 34 43 [] [(34,(.bool (s==([116,114,97,112]:List UInt8))))] rfl fun _=>zi 1 3 (fun a2=>?_) fun a2=>?_
 ·try simp only[BS]at a2
  refine wT 1 [] 2 2 [] [(2,(.bool false))] rfl fun _=>ae ⟨.inr rfl,_,rfl,false,_,(E),(HS.forget A),rfl,(by(unfold vnK;simp_all[scK,rsK];done))⟩
 try simp only[BS]at a2
 refine wT 1 [] 2 2 [] [(2,(.bool true))] rfl fun _=>ae ⟨.inr rfl,_,rfl,true,_,(E),(HS.forget A),rfl,(by(unfold vnK;simp_all[scK,rsK];done))⟩
theorem vnames5_c{an:Option Addr}{a1:Nat}(l:List Str)(hs:HS (.of H []) F H [] R)(hl:SR F (sL an l.length a1) l)(hv: ∀i,i<l.length->(l.getD i default).b.length<4611686018427387904)(hn:l.length<4611686018427387904):kKt ex 91 [(sL an l.length a1)] H fun v H'=> ∃(o:Bool) (F':Fz),Fz.le F F'/\HS (.of H []) F' H' [] R/\v= .bool o/\o=l.all (fun s=>vnK s.b):=by
 refine av Tryz.func91 rfl rfl (aj 1 rfl (wT 3 [] 2 2 [] [(2,(.bool false))] rfl fun _=>wT 2 [] 5 7 [] [(5,(sL an l.length a1)),(6,(iI (l.length:Int))),(7,(iI 0))] rfl fun _=>aq (fun(mm:Nat) f H'=> ∃(i:Nat) (F':Fz),Fz.le F F'/\HS (Base.of H []) F' H' [] R/\aN f [(5,(sL an l.length a1)),(6,(iI (l.length:Int))),(7,(iI (i:Int)))]/\mm=l.length-i/\(l.all (fun s=>vnK s.b)=(l.drop i).all (fun s=>vnK s.b))/\(i<=l.length)) _ ⟨0,_,fR,hs,⟨rfl,rfl,rfl,trivial⟩,rfl,(by rfl),(by omega)⟩ ?_));rintro ax f3 H3 ⟨i,F3,O,E,V,rfl,Y,hi⟩ al;refine aC _ V (fun _=>?_);clear V;replace hl:=hl.mono O;refine aj 1 rfl (wT 2 [] 8 8 [] [(8,(.bool (decide ((i:Int)<(l.length:Int)))))] rfl fun _=>zd 4 5 (fun c5=>?_) fun c5=>?_)
 ·obtain⟨ar,Z⟩:=Sv.view (SR.sv hl E);refine wR 2 [(1,.o (.string ⟨⟨(l.getD i default).b⟩⟩))] 9 10 [4] [(4,(.string ⟨⟨(l.getD i default).b⟩⟩))] (vA (Sv.ix (j:=(i:Int)) (SR.sv hl E)) (vA (ql 9 0 (vS (Z i)) rfl rfl) trivial)) rfl fun _=>ab (zm (.string ⟨⟨(l.getD i default).b⟩⟩) (zc (gn ex (l.getD i default).b (HS.call E) (hv i (by omega))) ?_))
  rintro _ H9 ⟨o9,F9,U,T,rfl,rfl⟩;replace T:HS _ _ _ [] _:=HS.back E rfl T;refine wTo 1 2 [] 13 13 [] [(13,(.bool (!(vnK (l.getD i default).b))))] rfl fun _=>ad 1 rfl (zi 1 2 (fun A=>?_) fun A=>?_)
  ·try simp only[BS]at A
   have a3:=jg (p:=fun s:Str=>vnK s.b) (l:=l) (i:=i) (by omega) (by simpa using A);refine wT 1 [] 2 2 [] [(2,(.bool false))] rfl fun _=>ae ⟨.inr rfl,_,rfl,false,_,(fT (O) U),(HS.forget T),rfl,(Y.trans a3).symm⟩
  try simp only[BS]at A
  have a4:=kr (p:=fun s:Str=>vnK s.b) (l:=l) (i:=i) (by omega) (by simpa using A);refine wU 1 [] 7 7 [14] [(7,(iI ((i:Int)+1)))] (vi (n:=(i:Int)+1)) rfl fun _=>?_
  refine al _ _ _ ?_ ⟨i+1,_,(fT (O) U),T,⟨rfl,rfl,rfl,trivial⟩,rfl,(Y.trans a4),(by omega)⟩;omega
 refine wT 1 [] 2 2 [] [(2,(.bool true))] rfl fun _=>ae ⟨.inr rfl,_,rfl,true,_,(O),(HS.forget E),rfl,(Y.trans (by rw[dre5 (by omega)];rfl)).symm⟩
theorem wfexpr5_c{E:Option Addr}{O:Nat}(x:ExpT)(d:Int)(hs:HS (.of H []) F H [] R)(a7:in64 x.kind)(a8:in64 x.n)(a9:in64 x.op)(ba:SR F (sL E x.kids.length O) x.kids)(hx:nmE x):kKt ex 93 [(aG [(iI x.kind),(iI x.n),(.string ⟨⟨x.name.b⟩⟩),(iI x.op),(sL E x.kids.length O)]),(iI d)] H fun v H'=> ∃(o:Bool) (F':Fz),Fz.le F F'/\HS (.of H []) F' H' [] R/\v= .bool o/\o=wxE x:=by
 obtain⟨Z,bn⟩:=nm_e hx;refine av Tryz.func93 rfl rfl (aj 1 rfl (ab (aw (bX hs rfl rfl) rfl rfl ?_)));rintro _ H2 _ ⟨b1,rfl,(A:HS _ _ _ [(fP b1 [(iI x.kind),(iI x.n),(.string ⟨⟨x.name.b⟩⟩),(iI x.op),(sL E x.kids.length O)])] _),_⟩;refine za (.bool false) (ad 2 rfl (wT 3 [] 1 0 [5] [(5,(iI 0))] rfl fun _=>wU 3 [(1,.o (iI x.kind))] 6 7 [] [(7,(iI x.kind))] (ql 3 0 (HS.hc A (i:=0) rfl) rfl rfl) rfl fun _=>wT 1 [] 8 9 [] [(8,(.bool (x.kind==1)))] rfl fun _=>zi 1 1 (fun c6=>?_) fun c6=>?_))
 ·try simp only[BS]at c6
  refine wR 1 [(1,.o (.string ⟨⟨x.name.b⟩⟩)),(5,.o (iI x.op)),(10,.o (sL E x.kids.length O))] 10 23 [4] [(4,(.bool (((x.name.b==([]:List UInt8))&&(x.op==0))&&((x.kids.length:Int)==0))))] (vA (ql 9 2 (HS.hc A (i:=0) rfl) rfl rfl) (vA (fun(T:(x.name.b==([]:List UInt8))=true)=>(ql 3 3 (HS.hc A (i:=0) rfl) rfl rfl)) (vA (fun(T:((x.name.b==([]:List UInt8))&&(x.op==0))=true)=>(ql 44 4 (HS.hc A (i:=0) rfl) rfl rfl)) trivial))) rfl fun _=>ae ⟨.inr rfl,_,rfl,(((x.name.b==([]:List UInt8))&&(x.op==0))&&((x.kids.length:Int)==0)),_,fR,(HS.forget A),rfl,(by unfold wxE;simp_all)⟩
 try simp only[BS]at c6
 refine wT 1 [] 24 25 [] [(24,(.bool (x.kind==2)))] rfl fun _=>zi 3 1 (fun c9=>?_) fun c9=>?_
 ·try simp only[BS]at c9
  refine wj 1 A [(1,.o (iI x.n)),(5,.o (iI x.op)),(10,.o (sL E x.kids.length O)),(17,.o (.string ⟨⟨x.name.b⟩⟩)),(18,.o (.bool (vnK x.name.b)))] 67 86 [4] [(4,(.bool ((((x.n==0)&&(x.op==0))&&((x.kids.length:Int)==0))&&vnK x.name.b)))] (vA (jl A 2 1 0 rfl rfl rfl) (vA (fun(T:(x.n==0)=true)=>(jl A 3 3 0 rfl rfl rfl)) (vA (fun(T:((x.n==0)&&(x.op==0))=true)=>(jl A 44 4 0 rfl rfl rfl)) (vA (fun(T:(((x.n==0)&&(x.op==0))&&((x.kids.length:Int)==0))=true)=>(jl A 9 2 0 rfl rfl rfl)) (vA (fun(T:(((x.n==0)&&(x.op==0))&&((x.kids.length:Int)==0))=true)=>(jc A fun _ _ _ q=>gn ex x.name.b q (Z))) trivial))))) (by kernel_rfl) fun a5 bk bb ar a1=>?_
  refine ae ⟨.inr rfl,_,rfl,((((x.n==0)&&(x.op==0))&&((x.kids.length:Int)==0))&&vnK x.name.b),_,(ar),(HS.forget a1),rfl,(by unfold wxE;simp_all)⟩
 try simp only[BS]at c9
 refine wT 1 [] 26 27 [] [(26,(.bool (x.kind==3)))] rfl fun _=>zi 0 1 (fun U=>?_) fun U=>?_
 ·try simp only[BS]at U
  refine wT 3 [] 1 0 [5] [(5,(iI 1))] rfl fun _=>wj 1 A [(1,.o (iI x.n)),(5,.o (iI x.op)),(10,.o (sL E x.kids.length O)),(17,.o (.string ⟨⟨x.name.b⟩⟩)),(18,.o (.bool (vnK x.name.b)))] 67 86 [4] [(4,(.bool ((((x.n==0)&&(x.op==0))&&((x.kids.length:Int)==1))&&vnK x.name.b)))] (vA (jl A 2 1 0 rfl rfl rfl) (vA (fun(T:(x.n==0)=true)=>(jl A 3 3 0 rfl rfl rfl)) (vA (fun(T:((x.n==0)&&(x.op==0))=true)=>(jl A 44 4 0 rfl rfl rfl)) (vA (fun(T:(((x.n==0)&&(x.op==0))&&((x.kids.length:Int)==1))=true)=>(jl A 9 2 0 rfl rfl rfl)) (vA (fun(T:(((x.n==0)&&(x.op==0))&&((x.kids.length:Int)==1))=true)=>(jc A fun _ _ _ q=>gn ex x.name.b q (Z))) trivial))))) (by kernel_rfl) fun a6 bl bf ax a2=>?_
  refine ae ⟨.inr rfl,_,rfl,((((x.n==0)&&(x.op==0))&&((x.kids.length:Int)==1))&&vnK x.name.b),_,(ax),(HS.forget a2),rfl,(by unfold wxE;simp_all)⟩
 try simp only[BS]at U
 refine wT 1 [] 28 29 [] [(28,(.bool (x.kind==5)))] rfl fun _=>zi 1 1 (fun V=>?_) fun V=>?_
 ·try simp only[BS]at V
  refine wR 1 [(1,.o (iI x.n)),(5,.o (.string ⟨⟨x.name.b⟩⟩)),(10,.o (iI x.op)),(15,.o (sL E x.kids.length O))] 30 48 [4] [(4,(.bool ((((x.n==0)&&(x.name.b==([]:List UInt8)))&&(x.op==0))&&((x.kids.length:Int)==3))))] (vA (ql 2 1 (HS.hc A (i:=0) rfl) rfl rfl) (vA (fun(T:(x.n==0)=true)=>(ql 9 2 (HS.hc A (i:=0) rfl) rfl rfl)) (vA (fun(T:((x.n==0)&&(x.name.b==([]:List UInt8)))=true)=>(ql 3 3 (HS.hc A (i:=0) rfl) rfl rfl)) (vA (fun(T:(((x.n==0)&&(x.name.b==([]:List UInt8)))&&(x.op==0))=true)=>(ql 44 4 (HS.hc A (i:=0) rfl) rfl rfl)) trivial)))) rfl fun _=>ae ⟨.inr rfl,_,rfl,((((x.n==0)&&(x.name.b==([]:List UInt8)))&&(x.op==0))&&((x.kids.length:Int)==3)),_,fR,(HS.forget A),rfl,(by unfold wxE;simp_all)⟩
 try simp only[BS]at V
 refine wT 1 [] 49 50 [] [(49,(.bool (x.kind==4)))] rfl fun _=>zi 1 1 (fun Y=>?_) fun Y=>?_
 ·try simp only[BS]at Y
  refine wR 1 [(1,.o (iI x.n)),(5,.o (.string ⟨⟨x.name.b⟩⟩)),(10,.o (iI x.op)),(12,.o (sL E x.kids.length O)),(14,.o (.bool (opK5 x.op (x.kids.length:Int))))] 51 66 [4] [(4,(.bool (((x.n==0)&&(x.name.b==([]:List UInt8)))&&opK5 x.op (x.kids.length:Int))))] (vA (ql 2 1 (HS.hc A (i:=0) rfl) rfl rfl) (vA (fun(T:(x.n==0)=true)=>(ql 9 2 (HS.hc A (i:=0) rfl) rfl rfl)) (vA (fun(T:((x.n==0)&&(x.name.b==([]:List UInt8)))=true)=>(ql 3 3 (HS.hc A (i:=0) rfl) rfl rfl)) (vA (fun(T:((x.n==0)&&(x.name.b==([]:List UInt8)))=true)=>(ql 44 4 (HS.hc A (i:=0) rfl) rfl rfl)) (vA (fun(T:((x.n==0)&&(x.name.b==([]:List UInt8)))=true)=>(validop_c_q ex x.op (x.kids.length:Int) H2)) trivial))))) rfl fun _=>ae ⟨.inr rfl,_,rfl,(((x.n==0)&&(x.name.b==([]:List UInt8)))&&opK5 x.op (x.kids.length:Int)),_,fR,(HS.forget A),rfl,(by unfold wxE;simp_all)⟩
 try simp only[BS]at Y
 refine wT 1 [] 4 4 [] [(4,(.bool false))] rfl fun _=>ae ⟨.inr rfl,_,rfl,false,_,fR,(HS.forget A),rfl,(by unfold wxE;simp_all)⟩
theorem fields_c(k:Int)(hs:HS (.of H []) F H [] R):kKt ex 123 [(iI k)] H fun v H'=> ∃(w:FdT) (o:Bool) (F':Fz),Fz.le F F'/\HS (.of H []) F' H' [] R/\v= .tuple ⟨[.agg ⟨[.bool w.name,.bool w.to,.bool w.n,.bool w.at_,.bool w.val,.bool w.args,.bool w.thn,.bool w.els]⟩,.bool o]⟩/\w=fdK k/\o=fdO k:=by
 refine av Tryz.func123 rfl rfl (aj 1 rfl (ab (aw (aH hs rfl) rfl rfl ?_)));rintro _ H2 _ ⟨E,rfl,(A:HS _ _ _ [(fP E [(.bool false),(.bool false),(.bool false),(.bool false),(.bool false),(.bool false),(.bool false),(.bool false)])] _),_⟩;refine za (.bool false) (ad 3 rfl (wT 3 [] 4 4 [] [(4,(iI k))] rfl fun _=>wT 1 [] 5 6 [] [(5,(.bool (k==1)))] rfl fun _=>zi 1 1 (fun c5=>?_) fun c5=>?_))
 ·try simp only[BS]at c5
  refine ab (wTo 1 0 [] 7 7 [] [(7,(aG [(.bool true),(.bool false),(.bool false),(.bool false),(.bool true),(.bool false),(.bool false),(.bool false)]))] rfl fun _=>ay (am (q:=0) A rfl rfl rfl rfl rfl rfl rfl rfl rfl) rfl ?_);rintro _ H7 _ ⟨(a3:HS _ _ _ [(fP E [(.bool true),(.bool false),(.bool false),(.bool false),(.bool true),(.bool false),(.bool false),(.bool false)])] _),_⟩;refine za (.bool true) (ad 1 rfl (ae ⟨.inr rfl,_,(rC rfl (cM rfl rfl (HS.hc a3 (i:=0) rfl) rfl) (rT rfl rN)),(⟨true,false,false,false,true,false,false,false⟩:FdT),true,_,fR,(HS.forget a3),rfl,(by(unfold fdK;simp_all;done)),(by(unfold fdO;simp_all;done))⟩))
 try simp only[BS]at c5
 refine wT 1 [] 8 9 [] [(8,(.bool (k==2)))] rfl fun _=>zi 1 1 (fun c9=>?_) fun c9=>?_
 ·try simp only[BS]at c9
  refine ab (wTo 1 0 [] 10 10 [] [(10,(aG [(.bool true),(.bool false),(.bool false),(.bool true),(.bool true),(.bool false),(.bool false),(.bool false)]))] rfl fun _=>ay (am (q:=0) A rfl rfl rfl rfl rfl rfl rfl rfl rfl) rfl ?_);rintro _ a6 _ ⟨(Z:HS _ _ _ [(fP E [(.bool true),(.bool false),(.bool false),(.bool true),(.bool true),(.bool false),(.bool false),(.bool false)])] _),_⟩;refine za (.bool true) (ad 1 rfl (ae ⟨.inr rfl,_,(rC rfl (cM rfl rfl (HS.hc Z (i:=0) rfl) rfl) (rT rfl rN)),(⟨true,false,false,true,true,false,false,false⟩:FdT),true,_,fR,(HS.forget Z),rfl,(by(unfold fdK;simp_all;done)),(by(unfold fdO;simp_all;done))⟩))
 try simp only[BS]at c9
 refine wT 1 [] 11 12 [] [(11,(.bool (k==3)))] rfl fun _=>zi 1 1 (fun O=>?_) fun O=>?_
 ·try simp only[BS]at O
  refine ab (wTo 1 0 [] 13 13 [] [(13,(aG [(.bool false),(.bool false),(.bool false),(.bool false),(.bool true),(.bool false),(.bool true),(.bool true)]))] rfl fun _=>ay (am (q:=0) A rfl rfl rfl rfl rfl rfl rfl rfl rfl) rfl ?_);rintro _ a7 _ ⟨(al:HS _ _ _ [(fP E [(.bool false),(.bool false),(.bool false),(.bool false),(.bool true),(.bool false),(.bool true),(.bool true)])] _),_⟩;refine za (.bool true) (ad 1 rfl (ae ⟨.inr rfl,_,(rC rfl (cM rfl rfl (HS.hc al (i:=0) rfl) rfl) (rT rfl rN)),(⟨false,false,false,false,true,false,true,true⟩:FdT),true,_,fR,(HS.forget al),rfl,(by(unfold fdK;simp_all;done)),(by(unfold fdO;simp_all;done))⟩))
 try simp only[BS]at O
 refine wT 1 [] 14 15 [] [(14,(.bool (k==4)))] rfl fun _=>zi 1 1 (fun T=>?_) fun T=>?_
 ·try simp only[BS]at T
  refine ab (wTo 1 0 [] 16 16 [] [(16,(aG [(.bool false),(.bool false),(.bool false),(.bool false),(.bool true),(.bool false),(.bool true),(.bool false)]))] rfl fun _=>ay (am (q:=0) A rfl rfl rfl rfl rfl rfl rfl rfl rfl) rfl ?_);rintro _ a8 _ ⟨(an:HS _ _ _ [(fP E [(.bool false),(.bool false),(.bool false),(.bool false),(.bool true),(.bool false),(.bool true),(.bool false)])] _),_⟩;refine za (.bool true) (ad 1 rfl (ae ⟨.inr rfl,_,(rC rfl (cM rfl rfl (HS.hc an (i:=0) rfl) rfl) (rT rfl rN)),(⟨false,false,false,false,true,false,true,false⟩:FdT),true,_,fR,(HS.forget an),rfl,(by(unfold fdK;simp_all;done)),(by(unfold fdO;simp_all;done))⟩))
 try simp only[BS]at T
 refine wT 1 [] 17 18 [] [(17,(.bool (k==5)))] rfl fun _=>zi 1 1 (fun U=>?_) fun U=>?_
 ·try simp only[BS]at U
  refine ab (wTo 1 0 [] 19 19 [] [(19,(aG [(.bool false),(.bool false),(.bool false),(.bool false),(.bool true),(.bool false),(.bool false),(.bool false)]))] rfl fun _=>ay (am (q:=0) A rfl rfl rfl rfl rfl rfl rfl rfl rfl) rfl ?_);rintro _ a9 _ ⟨(ar:HS _ _ _ [(fP E [(.bool false),(.bool false),(.bool false),(.bool false),(.bool true),(.bool false),(.bool false),(.bool false)])] _),_⟩;refine za (.bool true) (ad 1 rfl (ae ⟨.inr rfl,_,(rC rfl (cM rfl rfl (HS.hc ar (i:=0) rfl) rfl) (rT rfl rN)),(⟨false,false,false,false,true,false,false,false⟩:FdT),true,_,fR,(HS.forget ar),rfl,(by(unfold fdK;simp_all;done)),(by(unfold fdO;simp_all;done))⟩))
 try simp only[BS]at U
 refine wT 1 [] 20 21 [] [(20,(.bool (k==6)))] rfl fun _=>zi 1 1 (fun V=>?_) fun V=>?_
 ·try simp only[BS]at V
  refine ab (wTo 1 0 [] 22 22 [] [(22,(aG [(.bool true),(.bool true),(.bool false),(.bool false),(.bool false),(.bool true),(.bool false),(.bool false)]))] rfl fun _=>ay (am (q:=0) A rfl rfl rfl rfl rfl rfl rfl rfl rfl) rfl ?_);rintro _ ba _ ⟨(ax:HS _ _ _ [(fP E [(.bool true),(.bool true),(.bool false),(.bool false),(.bool false),(.bool true),(.bool false),(.bool false)])] _),_⟩;refine za (.bool true) (ad 1 rfl (ae ⟨.inr rfl,_,(rC rfl (cM rfl rfl (HS.hc ax (i:=0) rfl) rfl) (rT rfl rN)),(⟨true,true,false,false,false,true,false,false⟩:FdT),true,_,fR,(HS.forget ax),rfl,(by(unfold fdK;simp_all;done)),(by(unfold fdO;simp_all;done))⟩))
 try simp only[BS]at V
 refine wT 1 [] 23 24 [] [(23,(.bool (k==7)))] rfl fun _=>zi 1 3 (fun Y=>?_) fun Y=>?_
 ·try simp only[BS]at Y
  refine ab (wTo 1 0 [] 25 25 [] [(25,(aG [(.bool false),(.bool false),(.bool true),(.bool false),(.bool false),(.bool false),(.bool false),(.bool false)]))] rfl fun _=>ay (am (q:=0) A rfl rfl rfl rfl rfl rfl rfl rfl rfl) rfl ?_);rintro _ bb _ ⟨(a1:HS _ _ _ [(fP E [(.bool false),(.bool false),(.bool true),(.bool false),(.bool false),(.bool false),(.bool false),(.bool false)])] _),_⟩;refine za (.bool true) (ad 1 rfl (ae ⟨.inr rfl,_,(rC rfl (cM rfl rfl (HS.hc a1 (i:=0) rfl) rfl) (rT rfl rN)),(⟨false,false,true,false,false,false,false,false⟩:FdT),true,_,fR,(HS.forget a1),rfl,(by(unfold fdK;simp_all;done)),(by(unfold fdO;simp_all;done))⟩))
 try simp only[BS]at Y
 refine ab (wTo 1 0 [] 26 26 [] [(26,(aG [(.bool false),(.bool false),(.bool false),(.bool false),(.bool false),(.bool false),(.bool false),(.bool false)]))] rfl fun _=>ay (am (q:=0) A rfl rfl rfl rfl rfl rfl rfl rfl rfl) rfl ?_);rintro _ bf _ ⟨(a2:HS _ _ _ [_] _),_⟩;refine za (.bool false) (ad 1 rfl (ae ⟨.inr rfl,_,(rC rfl (cM rfl rfl (HS.hc a2 (i:=0) rfl) rfl) (rT rfl rN)),(⟨false,false,false,false,false,false,false,false⟩:FdT),false,_,fR,(HS.forget a2),rfl,(by(unfold fdK;simp_all;done)),(by(unfold fdO;simp;omega))⟩))
theorem namef_c(s:List UInt8)(w:Bool)(hs:HS (.of H []) F H [] R)(Y:s.length<4611686018427387904):kKt ex 124 [(.string ⟨⟨s⟩⟩),(.bool w)] H fun v H'=> ∃(o:Bool) (F':Fz),Fz.le F F'/\HS (.of H []) F' H' [] R/\v= .bool o/\o=nmF s w:=by
 refine av Tryz.func124 rfl rfl (aj 1 rfl (wT 3 [] 4 4 [] [(4,(.bool false))] rfl fun _=>wT 1 [] 5 5 [] [(5,(.bool w))] rfl fun _=>zi 1 2 (fun E=>?_) fun E=>?_))
 ·try simp only[BS]at E
  refine ab (zm (.string ⟨⟨s⟩⟩) (zc (gn ex s (HS.call hs) (by omega)) ?_));rintro _ U ⟨V,T,O,A,rfl,rfl⟩;replace A:HS _ _ _ [] _:=HS.back hs rfl A;refine za (.bool (vnK s)) (ad 1 rfl (ae ⟨.inr rfl,_,rfl,vnK s,_,(O),(HS.forget A),rfl,(by unfold nmF;simp_all)⟩))
 try simp only[BS]at E
 refine wT 1 [] 8 9 [4] [(4,(.bool (s==([]:List UInt8))))] rfl fun _=>ae ⟨.inr rfl,_,rfl,(s==([]:List UInt8)),_,fR,(HS.forget hs),rfl,(by unfold nmF;simp_all)⟩
end Go.Proofs.YtkpgbdkkgcdhmaaGreat.da
