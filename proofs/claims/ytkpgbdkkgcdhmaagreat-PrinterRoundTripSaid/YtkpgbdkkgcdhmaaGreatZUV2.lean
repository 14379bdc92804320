/-
Symbolic runs of the code that the law reaches, part 3. No condition but bounds on lengths.
-/
import Derived.Test.YtkpgbdkkgcdhmaaGreatZUV1
noncomputable section
namespace Go.Proofs.YtkpgbdkkgcdhmaaGreat
open Go.R
open Inhabited renaming default→n_
open List renaming getD→Y,length→Q
set_option maxRecDepth 10000
set_option maxHeartbeats 4000000
set_option linter.unusedVariables false
set_option linter.unusedSimpArgs false
open l1 w1 w3 pt pa pb pc pd pe pf pg ph ga gb ca cb cc cd ta tb bk bg da db dc dd
namespace de
variable (ex:FuncId) {F:Fz} {H:Heap} {R:List Fp}
def cx:List (List UInt8)->List Str->Bool
 |_,[]=>false
 |w,k::l=>if k.b∈w then true else cx (w++[k.b]) l
theorem dup_y{l m:List Str}{w:List (List UInt8)}{i:Nat}(h:i<Q l)(c:(Y l i n_).b∈w):cx w (l.drop i++m)=true:=by rw[drp5 (d:=n_) h,a0t,cx,if_pos c]
theorem dup_n{l m:List Str}{w:List (List UInt8)}{i:Nat}(h:i<Q l)(c: ¬(Y l i n_).b∈w):cx w (l.drop i++m)=cx (w++[(Y l i n_).b]) (l.drop (i+1)++m):=by rw[drp5 (d:=n_) h,a0t,cx,if_neg c]
theorem snoc_n{l:List ArrT}{i:Nat}(h:i<Q l):(l.take i).map ArrT.pp++[(⟨(Y l i n_).pp.b⟩:Str)]=(l.take (i+1)).map ArrT.pp:=by rw[a19,a08 h,a0N,a09,a08 h];rfl
theorem snoc_f{l:List FunT}{i:Nat}(h:i<Q l):(l.take i).map FunT.pp++[(⟨(Y l i n_).pp.b⟩:Str)]=(l.take (i+1)).map FunT.pp:=by rw[a19,a08 h,a0N,a09,a08 h];rfl
theorem fl_at{E:List (List Str)}{i:Nat}(h:i<Q E):(E.drop i).flatten=(Y E i n_).drop 0++(E.drop (i+1)).flatten:=by rw[drp5 (d:=n_) h];rfl
theorem pq{ar a2}(ll:List (List Str))(hs:Hb H F H [] R)(a5:Sr F ar ll a2)(hn:Q ll<4611686018427387904)(hv: ∀i,i<Q ll->Q (Y ll i n_)<4611686018427387904):kKt ex 96 [(S_ ar ll a2)] H λv H'=> ∃(o:Bool),∃F',F.le F'/\Hb H F' H' [] R/\v= .bool o/\o=cx [] ll.flatten:=by
 refine ay Tryz.func96 V V (aj 1 V (wT 2 [] 2 2 [] [(2,false)] V λ_=>ab (bd (rs_mapN hs) V V ?_)));rintro _ H3 _ ⟨b2,rfl,bb,_⟩;refine za (.map (some b2)) (ai 3 V (wT 2 [] 9 11 [] [(9,(S_ ar ll a2)),(10,(Q ll:Int)),(11,(iI 0))] V λ_=>ak (λ(mm:Nat) f H'=> ∃(i:Nat) (T:List (List UInt8)),∃F',F.le F'/\Hb H F' H' [(tabB b2 T)] R/\aI f [(3,(.map (some b2))),(9,(S_ ar ll a2)),(10,(Q ll:Int)),(11,(i:Int))]/\mm=Q ll-i/\(cx [] ll.flatten=cx T (ll.drop i).flatten)/\(i<=Q ll)) _ ⟨0,[],_,fR,bb,f_,V,k_,M⟩ ?_));rintro b4 f5 H5 ⟨i,T,F5,an,ax,a3,rfl,h1,hi⟩ bf;refine aw _ a3 (λ_=>?_);clear a3;have a5:=a5.ac an;refine aj 1 V (wT 2 [] 12 12 [] [(12,(decide ((i:Int)<(Q ll:Int))))] V λ_=>zd 4 5 (λc7=>?_) λc7=>?_)
 ·have co:=hv i M;have⟨U,a4⟩:=Sv.Gg (SR.sv a5 ax);have s9:=fL (a4 i);refine wrp 2 13 14 [5] [(5,(sL (cA (U i) 0) (Q (Y ll i n_)) (cK (U i) 0)))] (Ha_ (Sv.ix (j:=(i:Int)) (SR.sv a5 ax)) (Hl_ 1 (ql 50 0 (vL (a4 i)) V V) Hn_)) K_ V λ_=>wT 2 [] 15 17 [] [(15,(sL (cA (U i) 0) (Q (Y ll i n_)) (cK (U i) 0))),(16,(Q (Y ll i n_):Int)),(17,(iI 0))] V λ_=>ak (λ(mm:Nat) f H'=> ∃(j:Nat) (E:List (List UInt8)),∃F',F5.le F'/\Hb H F' H' [(tabB b2 E)] R/\aI f [(3,(.map (some b2))),(9,(S_ ar ll a2)),(10,(Q ll:Int)),(11,(i:Int)),(15,(sL (cA (U i) 0) (Q (Y ll i n_)) (cK (U i) 0))),(16,(Q (Y ll i n_):Int)),(17,(j:Int))]/\mm=Q (Y ll i n_)-j/\(cx [] ll.flatten=cx E ((Y ll i n_).drop j++(ll.drop (i+1)).flatten))/\(j<=Q (Y ll i n_))) _ ⟨0,T,_,fR,ax,f_,V,(by rw[h1,fl_at M]),M⟩ ?_
  rintro bw b3 b0 ⟨j,E,bF,Z,O,a1,rfl,g1,hj⟩ a8;refine aw _ a1 (λ_=>?_);clear a1;have s9:=s9.ac Z;refine aj 1 V (wT 2 [] 18 18 [] [(18,(decide ((j:Int)<(Q (Y ll i n_):Int))))] V λ_=>zd 4 5 (λa9=>?_) λa9=>?_)
  ·have⟨bt,a7⟩:=Sv.Gg (SR.sv s9 O);refine wrp 3 19 20 [7] [(7,(tX (Y (Y ll i n_) j n_).b))] (Ha_ (Sv.ix (j:=(j:Int)) (SR.sv s9 O)) (Hl_ 1 (ql 9 0 (vS (a7 j)) V V) Hn_)) K_ V λ_=>ab (wTo 2 0 [] 21 22 [] [(21,(.map (some b2))),(22,(tX (Y (Y ll i n_) j n_).b))] V λ_=>ad (v:=(.bool (decide ((Y (Y ll i n_) j n_).b∈E)))) (ap_lookN O (q:=0) V V V V V V V) V V (ai 1 V (zd 1 1 (λaA=>?_) λaA=>?_)))
   ·have bn:=dup_y (m:=(ll.drop (i+1)).flatten) (l:=Y ll i n_) (i:=j) M (by simpa using aA);refine wT 1 [] 2 2 [] [(2,true)] V λ_=>ag ⟨.inr V,_,V,true,_,(fT (an) Z),(HS.G3 O),V,(by(rw[g1,bn]))⟩
   have b7:=dup_n (m:=(ll.drop (i+1)).flatten) (l:=Y ll i n_) (i:=j) M (by simpa using aA);refine ab (wTo 2 0 [] 24 25 [] [(24,(.map (some b2))),(25,(tX (Y (Y ll i n_) j n_).b))] V λ_=>gy (rs_updN (k:=(Y (Y ll i n_) j n_).b) O (q:=0) V V V V V V) V ?_);rintro _ b1 _ ⟨a6,_⟩;refine ai 2 V (wU 1 [] 17 17 [26] [(17,(iI ((j:Int)+1)))] (vi (n:=(j:Int)+1)) V λ_=>?_);refine a8 _ _ _ ?_ ⟨j+1,E++[(Y (Y ll i n_) j n_).b],_,(Z),a6,f_,V,(g1.trans b7),M⟩;omega
  refine wU 1 [] 11 11 [27] [(11,(iI ((i:Int)+1)))] (vi (n:=(i:Int)+1)) V λ_=>?_
  refine bf _ _ _ ?_ ⟨i+1,E,_,(fT (an) Z),O,f_,V,(by rw[g1,dre5 M,a0o]),M⟩;omega
 refine wT 1 [] 2 2 [] [(2,false)] V λ_=>ag ⟨.inr V,_,V,false,_,(an),(HS.G3 ax),V,(by(rw[h1,dre5 M];rfl))⟩
theorem decl_c{a9 b3 a8 b2}(p:PrgT)(hs:Hb H F H [] R)(aA:Sr F a8 p.d b2)(O:Sr F a9 p.U b3)(hn:Q p.d<1000000000)(hm:Q p.U<1000000000):kKt ex 95 [(aG [(S_ a8 p.d b2),(S_ a9 p.U b3)])] H λv H'=> ∃cv,∃(dt:Nat) (al:List Str),∃ds,∃(ez:Nat) (fl:List Str),∃F',F.le F'/\Hb H F' H' [] R/\v= .tuple ⟨[sL cv (Q al) dt,sL ds (Q fl) ez]⟩/\Sr F' cv al dt/\Sr F' ds fl ez/\al=p.d.map ArrT.pp/\fl=p.U.map FunT.pp:=by
 refine ay Tryz.func95 V V (aj 1 V (ab (bd (aW hs V V) V V ?_)));rintro _ H2 _ ⟨b1,rfl,b7,_⟩;refine wro 2 1 [] 2 3 [] [(2,(sL _ 0 0)),(3,(sL _ 0 0))] trivial V V λ_=>ai 2 V (wr 3 [] 1 0 [4,5] [(4,(sL _ 0 0)),(5,(sL _ 0 0))] trivial V V λ_=>bQ 2 10 13 [] [(11,(sL _ _ _)),(12,(.int _ _)),(13,(.int _ 0))] (Hr_ 1 0 Hn_) b7 V V λ_=>?_)
 have d2:=HS.snoc b7;refine ak (λ(mm:Nat) f H'=> ∃(al:List Str) (i:Nat),∃a2,∃(a3:Nat),∃a4 F',F.le F'/\HS _ F' H' [[(b1,.cells [_,_] _ _)],a4] R/\OZ F' a2 al a3 a4/\aI f [(1,(pT b1 0)),(4,(S_ a2 al a3)),(5,(sL _ 0 0)),(11,(sL _ _ _)),(12,(.int _ _)),(13,(.int _ (i:Int)))]/\mm=Q p.d-i/\(al=(p.d.take i).map ArrT.pp)/\(i<=Q p.d)) _ ⟨_,0,_,0,[],_,fR,d2,(OS.nil:OS _ _ _ []),⟨V,V,V,V,V,V,trivial⟩,V,k_,M⟩ ?_;rintro g3 f6 H6 ⟨al,i,a2,a3,a4,F6,a7,a5,T,b6,rfl,hal,hi⟩ d3;refine aw _ b6 (λ_=>?_);clear b6;have⟨aA,O⟩:=M2 a7 aA O;refine aj 1 V (wr 2 [] 14 14 [] [(14,(decide ((i:Int)<(Q p.d:Int))))] trivial V V λ_=>zd 4 6 (λc9=>?_) λc9=>?_)
 ·refine ab ?_;have⟨e1,bF⟩:=Sv.Gg (SR.sv aA a5);have d6:=ArrT.fx (bF i);refine cu 2 0 15 16 [] [(16,(aG [_,_]))] (Ha_ (Sv.ix (SR.sv aA a5)) (Hl_ 1 (qn 49 0 2 (ArrT.vw (bF i)) V V V V) Hn_)) V V λ_=>zn a5 V λgm fi c3=>sgo 1 3 1 0 [] [] (Hr_ 3 2 Hn_) c3 V V λe3 fk bl=>ai 1 V (ab (cS 3 0 17 19 [] [(17,(sL _ _ _)),(19,(tX (Y p.d i _).pp.b))] (Hr_ 2 2 Hn_) bl V V λ_=>?_))
  refine zlo ([⟨(Y p.d i _).pp.b⟩]:List Str) bl V (RL.cs V RL.nl) V λf7 g1 g4 fq ch bn=>zao 1 T bn (OS.sv ch bn (i:=3) V) V V V (by(rw[hal];simp;omega)) λb4 b8 d4 fu ci c4=>za (sL b4 _ b8) (ai 2 V (wr 1 [] 13 13 [22] [(13,(.int _ _))] (vA (vi) trivial) V V λ_=>?_))
  refine d3 _ _ _ ?_ ⟨_,i+1,b4,b8,d4,_,(a7),(HS.sub c4 (a06 _ _)),ci,⟨V,V,V,V,V,V,trivial⟩,V,(by rw[hal,snoc_n M]),M⟩;omega
 refine bQ 2 23 26 [] [(24,(sL _ _ _)),(25,(.int _ _)),(26,(.int _ 0))] (Hr_ 1 0 Hn_) a5 V V λ_=>?_
 have c5:=HS.snoc a5;refine ak (λ(mm:Nat) f H'=> ∃(fl:List Str) (k:Nat),∃U,∃(Z:Nat),∃an F',F6.le F'/\HS _ F' H' [_,_,an] R/\OZ F' U fl Z an/\aI f [(4,(sL _ _ _)),(5,(S_ U fl Z)),(24,(sL _ _ _)),(25,(.int _ _)),(26,(.int _ (k:Int)))]/\mm=Q p.U-k/\(fl=(p.U.take k).map FunT.pp)/\(k<=Q p.U)) _ ⟨_,0,_,0,[],_,fR,c5,(OS.nil:OS _ _ _ []),⟨V,V,V,V,V,trivial⟩,V,k_,M⟩ ?_;rintro e7 g0 f1 ⟨fl,k,U,Z,an,e8,ax,a1,E,bf,rfl,hfl,hk⟩ dn;refine aw _ bf (λ_=>?_);clear bf;have⟨O,T⟩:=M2 ax O T;refine aj 1 V (wr 2 [] 27 27 [] [(27,(decide ((k:Int)<(Q p.U:Int))))] trivial V V λ_=>zd 4 5 (λd1=>?_) λd1=>?_)
 ·refine ab ?_;have⟨e2,b0⟩:=Sv.Gg (SR.sv O a1);have⟨d7,d8,d9,ea,ee,em,et⟩:=FunT.fx (b0 k);refine cu 2 0 28 29 [] [(29,(aG [_,_,_,_,_,_,_,_,_]))] (Ha_ (Sv.ix (SR.sv O a1)) (Hl_ 1 (qn 53 0 9 (FunT.vw (b0 k)) V V V V) Hn_)) V V λ_=>zn a1 V λgo f2 c6=>sgo 1 3 1 0 [] [] (Hr_ 3 3 Hn_) c6 V V λe4 f3 bt=>ai 1 V (ab (cS 3 0 30 32 [] [(30,(sL _ _ _)),(32,(tX (Y p.U k _).pp.b))] (Hr_ 2 3 Hn_) bt V V λ_=>?_))
  refine zlo ([⟨(Y p.U k _).pp.b⟩]:List Str) bt V (RL.cs V RL.nl) V λf9 g2 g5 f4 co bw=>zao 2 E bw (OS.sv co bw (i:=4) V) V V V (by(rw[hfl];simp;omega)) λb5 b9 d5 f5 cL c7=>za (sL b5 _ b9) (ai 2 V (wr 1 [] 26 26 [35] [(26,(.int _ _))] (vA (vi) trivial) V V λ_=>?_))
  refine dn _ _ _ ?_ ⟨_,k+1,b5,b9,d5,_,(ax),(HS.sub c7 (a06 _ _)),cL,⟨V,V,V,V,V,trivial⟩,V,(by rw[hfl,snoc_f M]),M⟩;omega
 refine wr 1 [] 2 3 [36,37] [(2,(sL _ _ _)),(3,(sL _ _ _))] trivial V V λ_=>?_
 have⟨fb,ba,c8,a6,e5⟩:=OS.Gi T a1 (i:=1) V;have E:=E.ac ba;have⟨fd,bb,dk,c0,e6⟩:=OS.Gi E c8 (i:=2) V;have a6:=a6.ac bb;refine ag ⟨.inr V,_,V,_,_,al,_,_,fl,_,(fT (fT (fT (a7) ax) ba) bb),(HS.G3 dk),V,a6,c0,(by(rw[hal,a0s M])),(by(rw[hfl,a0s M]))⟩
def tbS(E:List (List Str)):List (List UInt8):=E.flatten.map (·.b)
theorem tk_sn{l:List Str}{j:Nat}(h:j<Q l):(l.take j).map (·.b)++[(Y l j n_).b]=(l.take (j+1)).map (·.b):=by rw[a19,a08 h,a0N,a09,a08 h];rfl
theorem tk_fl{E:List (List Str)}{i:Nat}(h:i<Q E):(E.take i).flatten.map (·.b)++(Y E i n_).map (·.b)=(E.take (i+1)).flatten.map (·.b):=by rw[a19,a08 h,a0U,a0N,a09,a08 h];simp
def dup0(p:PrgT):Bool:=cx [] ([p.d.map ArrT.pp]:List (List Str)).flatten||cx [] ([p.U.map FunT.pp]:List (List Str)).flatten
def dupF5(p:PrgT)(g:FunT):Bool:=cx [] ([p.d.map ArrT.pp,g.A,g.B]:List (List Str)).flatten
def dupPr(p:PrgT):Bool:=dup0 p||p.U.any (dupF5 p)
theorem an5_y{α:Type} [Inhabited α]{p:α->Bool}{l:List α}{i:Nat}(h:i<Q l)(c:p (Y l i n_)=true):(l.drop i).any p=true:=by rw[drp5 (d:=n_) h,a22,c];rfl
theorem an5_n{α:Type} [Inhabited α]{p:α->Bool}{l:List α}{i:Nat}(h:i<Q l)(c:p (Y l i n_)=false):(l.drop i).any p=(l.drop (i+1)).any p:=by rw[drp5 (d:=n_) h,a22,c];rfl
theorem dups_c{a3 a6 a2 a5}(p:PrgT)(hs:Hb H F H [] R)(dn:Sr F a2 p.d a5)(E:Sr F a3 p.U a6)(hn:NmP p)(ha:Q p.d<1000000000)(hm:Q p.U<1000000000):kKt ex 51 [(aG [(S_ a2 p.d a5),(S_ a3 p.U a6)])] H λv H'=> ∃(o:Bool),∃F',F.le F'/\Hb H F' H' [] R/\v= .bool o/\o=dupPr p:=by
 have⟨hy,hz,hA,d8⟩:=hn;refine ay Tryz.func51 V V (aj 1 V (ab (bd (aW hs V V) V V ?_)));rintro _ H2 _ ⟨b1,rfl,bt,_⟩;refine za (.bool false) (ai 2 V (ab (cS 1 0 8 8 [] [(8,(aG [_,_]))] (Hr_ 0 0 Hn_) bt V V λ_=>zc (decl_c ex p (HS.call bt) dn E M M) ?_)));rintro _ H4 ⟨e0,e5,g4,e1,e6,g7,F4,a9,b3,rfl,T,b7,rfl,rfl⟩;replace b3:=HS.G8 bt V b3;have E:=E.ac a9;refine cu 5 2 10 11 [3,4,7] [(3,(sL _ _ _)),(4,(sL _ _ _))] Hn_ V V λ_=>ai 3 V (dq 12 19 [] [(19,(cx [] ([p.d.map ArrT.pp]:List (List Str)).flatten||cx [] ([p.U.map FunT.pp]:List (List Str)).flatten))] (λH'=> ∃F',F4.le F'/\Hb H F' H' [(fP b1 [(S_ a2 p.d a5),(S_ a3 p.U a6)])] R) ?_ ?_)
 ·refine ab (zm (sL _ _ _) (zlo ([p.d.map ArrT.pp]:List (List Str)) b3 V (RL.cs ⟨_,_,V,T⟩ RL.nl) V λg0 g9 hl f2 c5 bf=>?_));have⟨e8,ci,bl,dt,c8⟩:=OS.Gi c5 bf (i:=1) V;refine zc (pq ex _ (HS.call bl) dt M (by(intro i hi;rcases i with _|_|_|i<;>first|exact b5|exact b6|(show List.length (List.map _ _)<_;rw[a1m];omega)|(simp at hi;omega)|(simp at hi;done)))) ?_;rintro _ f3 ⟨hg,fb,co,U,rfl,rfl⟩;replace U:=HS.G8 bl V U;replace U:=HS.thaw bf (i:=1) V ci c8 co U;refine zm (.bool (cx [] _)) (bM V V (λO=>?_) (λO=>?_))
  ·have a7:=O;try simp only[BS]at a7
   refine zm (sL _ _ _) (aC V O (zlo ([p.U.map FunT.pp]:List (List Str)) U V (RL.cs ⟨_,_,V,b7⟩ RL.nl) V λg2 he ho f4 c6 bn=>aC V O ?_));have⟨fd,cL,bw,d1,c9⟩:=OS.Gi c6 bn (i:=2) V;refine zc (pq ex _ (HS.call bw) d1 M (by(intro i hi;rcases i with _|_|_|i<;>first|exact b5|exact b6|(show List.length (List.map _ _)<_;rw[a1m];omega)|(simp at hi;omega)|(simp at hi;done)))) ?_;rintro _ f5 ⟨hh,fi,c0,ax,rfl,rfl⟩;replace ax:=HS.G8 bw V ax;replace ax:=HS.thaw bn (i:=2) V cL c9 c0 ax;refine ad (v:=(.bool (cx [] _))) (aH V O V) V V (aB ?_);exact ao ⟨V,⟨_,fR,HS.sub ax (a06 _ _)⟩,(by repeat' first|exact Lr|refine Lu V ?_),(agC (congrArg _ (show cx [] _=(cx [] _||cx [] _) by simp only[↓O,BT])) agN)⟩
  have a7:=O;try simp only[BS]at a7
  refine ae V O V (ae V O V (ad (v:=(.bool true)) (aq V O V) V V (aB ?_)));exact ao ⟨V,⟨_,fR,HS.sub U (a06 _ _)⟩,(by repeat' first|exact Lr|refine Lu V ?_),(agC (congrArg _ (show true=(cx [] _||cx [] _) by simp only[↓O,BT])) agN)⟩
 skip;rintro g8 f1 ⟨d5,al,a4⟩;have⟨E,T⟩:=M2 al E T;refine aj 1 V (zi 1 3 (λaA=>?_) λaA=>?_)
 ·have d6:=aA;try simp only[BS]at d6
  have a8:dup0 p=true:=aA;refine wr 1 [] 2 2 [] [(2,true)] trivial V V λ_=>ag ⟨.inr V,_,V,_,_,(fT (a9) al),(HS.G3 a4),V,(by(unfold dupPr;rw[a8];rfl))⟩
 have a8:dup0 p=false:=aA;refine bQ 2 20 23 [] [(21,(sL _ _ _)),(22,(.int _ _)),(23,(.int _ 0))] (Hr_ 1 0 Hn_) a4 V V λ_=>ak (λ(mm:Nat) f H'=> ∃(i:Nat),∃F',d5.le F'/\HS _ F' H' _ R/\aI f [(3,(sL _ _ _)),(21,(sL _ _ _)),(22,(.int _ _)),(23,(.int _ (i:Int)))]/\mm=Q p.U-i/\(p.U.any (dupF5 p)=(p.U.drop i).any (dupF5 p))/\(i<=Q p.U)) _ ⟨0,_,fR,a4,f_,V,k_,M⟩ ?_
 rintro e7 g6 f6 ⟨i,fk,an,a1,bb,rfl,g1,hk⟩ d4;refine aw _ bb (λ_=>?_);clear bb;have⟨E,T⟩:=M2 an E T;refine aj 1 V (wr 2 [] 24 24 [] [(24,(decide ((i:Int)<(Q p.U:Int))))] trivial V V λ_=>zd 4 5 (λd7=>?_) λd7=>?_)
 ·have⟨hq,hr,ht,b5,b6,hu,hv,hw,hx⟩:=d8 i M;refine ab ?_;have⟨e3,b4⟩:=Sv.Gg (SR.sv E a1);have⟨d9,ea,ee,b8,b9,em,et⟩:=FunT.fx (b4 i);refine cu 2 0 25 26 [] [(26,(aG [_,_,_,_,_,_,_,_,_]))] (Ha_ (Sv.ix (SR.sv E a1)) (Hl_ 1 (qn 53 0 9 (FunT.vw (b4 i)) V V V V) Hn_)) V V λ_=>zn a1 V λg5 f7 d3=>sgo 1 3 1 0 [] [] (Hr_ 3 1 Hn_) d3 V V λe4 f9 bF=>ai 2 V (ab (cS 5 0 27 31 [] [(27,(sL _ _ _)),(29,(sL _ _ _)),(31,(sL _ _ _))] (Hr_ 2 1 (Hr_ 4 1 Hn_)) bF V V λ_=>?_))
  refine zlo ([_,_,_]:List (List Str)) bF V (RL.cs ⟨_,_,V,T⟩ (RL.cs ⟨_,_,V,b8⟩ (RL.cs ⟨_,_,V,b9⟩ RL.nl))) V λg3 hf hp gm c7 b0=>?_
  have⟨fq,c3,b2,d2,dk⟩:=OS.Gi c7 b0 (i:=2) V;refine zc (pq ex _ (HS.call b2) d2 M (by(intro i hi;rcases i with _|_|_|i<;>first|exact b5|exact b6|(show List.length (List.map _ _)<_;rw[a1m];omega)|(simp at hi;omega)|(simp at hi;done)))) ?_;rintro _ go ⟨hj,fu,c4,Z,rfl,rfl⟩;replace Z:=HS.G8 b2 V Z;replace Z:=HS.thaw b0 (i:=2) V c3 dk c4 Z;refine ai 1 V (zI 1 2 (λba=>?_) λba=>?_)
  ·have hC:=an5_y (p:=dupF5 p) (l:=p.U) (i:=i) M ba;refine wr 1 [] 2 2 [] [(2,true)] trivial V V λ_=>ag ⟨.inr V,_,V,_,_,(fT (fT (a9) al) an),(HS.G3 Z),V,(by(unfold dupPr;rw[a8,g1,hC];rfl))⟩
  have hS:=an5_n (p:=dupF5 p) (l:=p.U) (i:=i) M ba;refine wr 1 [] 23 23 [34] [(23,(.int _ _))] (vA (vi) trivial) V V λ_=>?_
  refine d4 _ _ _ ?_ ⟨i+1,_,(an),(HS.sub Z (a06 _ _)),f_,V,(g1.trans hS),M⟩;omega
 refine wr 1 [] 2 2 [] [(2,false)] trivial V V λ_=>ag ⟨.inr V,_,V,_,_,(fT (fT (a9) al) an),(HS.G3 a1),V,(by(unfold dupPr;rw[a8,g1,dre5 M];rfl))⟩
theorem set_c{ba bb}(ll:List (List Str))(hs:Hb H F H [] R)(aA:Sr F ba ll bb)(hn:Q ll<4611686018427387904)(hv: ∀i,i<Q ll->Q (Y ll i n_)<4611686018427387904):kKt ex 97 [(S_ ba ll bb)] H λv H'=> ∃(bt:Nat) (t:List (List UInt8)),∃F',F.le F'/\Hb H F' H' [] R/\v= .map (some bt)/\FzT F' bt t/\t=tbS ll:=by
 refine ay Tryz.func97 V V (aj 1 V (wr 2 [] 2 2 [] [(2,(.map none))] trivial V V λ_=>ab (bd (rs_mapN hs) V V ?_)));rintro _ H3 _ ⟨U,rfl,bf,_⟩;refine za _ (ai 3 V (wr 2 [] 9 11 [] [(9,(sL _ _ _)),(10,(.int _ _)),(11,(.int _ 0))] trivial V V λ_=>ak (λ(mm:Nat) f H'=> ∃(i:Nat) (T:List (List UInt8)),∃F',F.le F'/\HS _ F' H' [(tabB U T)] R/\aI f [(3,(.map (some U))),(9,(sL _ _ _)),(10,(.int _ _)),(11,(.int _ (i:Int)))]/\mm=Q ll-i/\(T=(ll.take i).flatten.map (·.b))/\(i<=Q ll)) _ ⟨0,[],_,fR,bf,f_,V,k_,M⟩ ?_));rintro b8 f5 H5 ⟨i,T,F5,an,al,a1,rfl,h1,hi⟩ bl;refine aw _ a1 (λ_=>?_);clear a1;have aA:=aA.ac an;refine aj 1 V (wr 2 [] 12 12 [] [(12,(decide ((i:Int)<(Q ll:Int))))] trivial V V λ_=>zd 4 5 (λc7=>?_) λc7=>?_)
 ·have c3:=hv i M;have⟨b6,a2⟩:=Sv.Gg (SR.sv aA al);have s9:=fL (a2 i);refine wrp 2 13 14 [5] [(5,(sL _ _ _))] (Ha_ (Sv.ix (SR.sv aA al)) (Hl_ 1 (ql 50 0 (vL (a2 i)) V V) Hn_)) V V λ_=>wr 2 [] 15 17 [] [(15,(sL _ _ _)),(16,(.int _ _)),(17,(.int _ 0))] trivial V V λ_=>ak (λ(mm:Nat) f H'=> ∃(j:Nat) (E:List (List UInt8)),∃F',F5.le F'/\HS _ F' H' [(tabB U E)] R/\aI f [(3,(.map (some U))),(9,(sL _ _ _)),(10,(.int _ _)),(11,(.int _ _)),(15,(sL _ _ _)),(16,(.int _ _)),(17,(.int _ (j:Int)))]/\mm=Q (Y ll i n_)-j/\(E=(ll.take i).flatten.map (·.b)++((Y ll i n_).take j).map (·.b))/\(j<=Q (Y ll i n_))) _ ⟨0,_,_,fR,al,f_,V,(by rw[h1];simp),M⟩ ?_
  rintro b0 b7 b4 ⟨j,E,b1,Z,O,ax,rfl,g1,hj⟩ a8;refine aw _ ax (λ_=>?_);clear ax;have s9:=s9.ac Z;refine aj 1 V (wr 2 [] 18 18 [] [(18,(decide ((j:Int)<(Q (Y ll i _):Int))))] trivial V V λ_=>zd 4 5 (λa9=>?_) λa9=>?_)
  ·have⟨bF,a7⟩:=Sv.Gg (SR.sv s9 O);refine wrp 1 19 20 [7] [(7,(tX (Y (Y ll i _) j _).b))] (Ha_ (Sv.ix (SR.sv s9 O)) (Hl_ 1 (ql 9 0 (vS (a7 j)) V V) Hn_)) V V λ_=>ab (wro 2 0 [] 21 22 [] [(21,(.map (some U))),(22,(tX (Y (Y ll i _) j _).b))] trivial V V λ_=>gy (rs_updN O (q:=0) V V V V V V) V ?_)
   rintro _ b5 _ ⟨a5,_⟩;refine ai 2 V (wr 1 [] 17 17 [23] [(17,(.int _ _))] (vA (vi) trivial) V V λ_=>?_);refine a8 _ _ _ ?_ ⟨j+1,_,_,(Z),a5,f_,V,(by rw[g1,a0b,tk_sn M]),M⟩;omega
  refine wr 1 [] 11 11 [24] [(11,(.int _ _))] (vA (vi) trivial) V V λ_=>?_
  refine bl _ _ _ ?_ ⟨i+1,_,_,(fT (an) Z),O,f_,V,(by rw[g1,a0s (l:=Y ll i n_) M];exact tk_fl M),M⟩;omega
 refine wr 1 [] 2 2 [25] [(2,(.map (some U)))] trivial V V λ_=>?_
 have⟨b3,a3,a6,a4⟩:=HS.frt al (i:=0) V;refine ag ⟨.inr V,_,V,U,_,_,(fT (an) a3),(HS.G3 a6),V,a4,(by rw[h1,a0s M];rfl)⟩
end de
open de
namespace df
variable (ex:FuncId) {F:Fz} {H:Heap} {R:List Fp}
theorem lkT{B:Base}{F}{H:Heap}{L R:List Fp}{b:Nat}{l:List (List UInt8)}(t:TypeId)(h:FzT F b l)(hs:HS B F H L R){O E:TypeId}{k:List UInt8}{i:TypeInfo}(T:Tryz.prog.underlying t=some (.map O E))(hd:Tryz.prog.underlying O=some .string)(hi:Tryz.prog.info? E=some i)(U:i.zero=some (.bool false)):
  dU Tryz.prog t (.map (some b)) (tX k) false H=some (.bool (decide (k∈l))):=h.look hs T hd hi U
theorem lkK{B:Base}{F}{H:Heap}{L R:List Fp}{b:Nat}{l:List (List UInt8×Int)}(t:TypeId)(h:FzK F b l)(hs:HS B F H L R){O E:TypeId}{k:List UInt8}{i:TypeInfo}(T:Tryz.prog.underlying t=some (.map O E))(hd:Tryz.prog.underlying O=some .string)(hi:Tryz.prog.info? E=some i)(U:i.zero=some (iI 0)):
  dU Tryz.prog t (.map (some b)) (tX k) true H=some (.tuple ⟨[((nq l k).getD 0),(.bool (nq l k).isSome)]⟩):=h.look hs T hd hi U
def psW(b:Nat)(w:Int):Fp:=[(b,.cells [(iI w)] none false)]
def reA(fl:List (List UInt8×Int))(s:StmT):Bool:=(nq fl s.K.b).isSome&&(((nq fl s.K.b).getD 0) !=(s.y.length:Int))
def reS(lv la:List (List UInt8))(fl:List (List UInt8×Int))(w:Int)(s:StmT)(_:Int):Int×Bool:=
 if s.j=1 then(w,decide (s.pp.b∈lv)) else if s.j=2 then(w,decide (s.pp.b∈la))
 else if s.j=6 then(if reA fl s=true then 5 else w,(nq fl s.K.b).isSome&&decide (s.pp.b∈lv)) else(w,true)
def reE(lv la:List (List UInt8))(x:ExpT):Bool:=((x.j !=2)||decide (x.pp.b∈lv))&&((x.j !=3)||decide (x.pp.b∈la))
theorem res1_c{O T}(x:ExpT)(d:Int){bv ba mv}(lv:List (List UInt8)){ma}(la:List (List UInt8))(hs:Hb H F H [] R)(Z:in64 x.j)(al:in64 x.n)(an:in64 x.op)(ax:Sr F O x.I T)(a1:FzC F bv [(.map (some mv))])(aA:FzC F ba [(.map (some ma))])(a3:FzT F mv lv)(a2:FzT F ma la):kKt ex 98 [(aG [x.j,x.n,(tX x.pp.b),x.op,(S_ O x.I T)]),d,(pT bv 0),(pT ba 0)] H λv H'=> ∃(o:Bool),∃F',F.le F'/\Hb H F' H' [] R/\v= .bool o/\o=reE lv la x:=by refine ay Tryz.func98 V V (aj 1 V (ab (bd (aW hs V V) V V ?_)));rintro _ H2 _ ⟨b1,rfl,E,_⟩;refine za _ (ai 2 V (bQ 1 6 26 [] [(6,(((x.j !=2)||decide (x.pp.b∈lv))&&((x.j !=3)||decide (x.pp.b∈la))))] (Hr_ 1 0 (dj 4 (λ_=>(ql 131 0 (a1.hc E) V V)) (dj 6 (λ_=>(ql 9 2 (h_ E V) V V)) (Ho_ 7 (.o (.bool (decide (x.pp.b∈lv)))) (λ(U:_)=>(lkT 131 a3 E V V V V)) (dj 11 (λ_=>(ql 3 0 (h_ E V) V V)) (Hl2_ 14 (λ_ _=>(ql 131 0 (aA.hc E) V V)) (Hl2_ 16 (λ_ _=>(ql 9 2 (h_ E V) V V)) (Ho_ 17 (.o (.bool (decide (x.pp.b∈la)))) (λ(U:_) (g2:_)=>(lkT 131 a2 E V V V V)) Hn_)))))))) E V V λ_=>ag ⟨.inr V,_,V,_,_,fR,(HS.G3 E),V,k_⟩))
theorem fne_res{F}{bv ba mv ma:Nat}{lv la:List (List UInt8)}(ax:FzC F bv [(.map (some mv))])(ar:FzC F ba [(.map (some ma))])(a1:FzT F mv lv)(aA:FzT F ma la):FnE ex (⟨98,[],[(pT bv 0),(pT ba 0)]⟩:FnV) (λx _=>reE lv la x) F:=
 ⟨⟨_,V,V⟩,λa k x d Z H R hF hs E O T U _ _=>res1_c ex x d lv la hs E O T U (ax.ac hF) (ar.ac hF) (a1.ac hF) (aA.ac hF)⟩
theorem a_5{p:Prop}(h:p:=by simp_all[reS,reA]):p:=h
theorem res2_c{al a1 Z aA U ax T an a2 a3}(s:StmT)(d:Int){bv ba bf bw mv}(lv:List (List UInt8)){ma}(la:List (List UInt8)){mf}(fl:List (List UInt8×Int))(w:Int)(hs:HS (.of H ((psW bw w).map Prod.fst)) F H [(psW bw w)] R)(b2:in64 s.j)(b3:in64 s.n)(b4:in64 s.G2.j)(b5:in64 s.G2.n)(b6:in64 s.G2.op)(b7:Sr F a2 s.G2.I a3)(b8:in64 s.val.j)(a6:in64 s.val.n)(a7:in64 s.val.op)(a8:Sr F T s.val.I an)(a9:Sr F U s.y ax)(bb:Sr F Z s.G4 aA)(bl:Sr F al s.G7 a1)(bn:FzC F bv [(.map (some mv))])(c4:FzC F ba [(.map (some ma))])(c6:FzC F bf [(.map (some mf))])(bt:FzT F mv lv)(c7:FzT F ma la)(c9:FzK F mf fl):kKt ex 99 [(aG [s.j,(tX s.pp.b),(tX s.K.b),s.n,s.G2.j,s.G2.n,(tX s.G2.pp.b),s.G2.op,(S_ a2 s.G2.I a3),s.val.j,s.val.n,(tX s.val.pp.b),s.val.op,(S_ T s.val.I an),(S_ U s.y ax),(S_ Z s.G4 aA),(S_ al s.G7 a1)]),d,(pT bv 0),(pT ba 0),(pT bf 0),(pT bw 0)] H λv H'=> ∃(o:Bool) (w':Int),∃F',F.le F'/\HS (.of H ((psW bw w).map Prod.fst)) F' H' [(psW bw w')] R/\v= .bool o/\w'=(reS lv la fl w s d).1/\o=(reS lv la fl w s d).2:=by
 replace hs:HS _ _ _ [(fP bw [w])] _:=hs;refine ay Tryz.func99 V V (aj 1 V (ab (bd (aW hs V V) V V ?_)));rintro _ H2 _ ⟨b1,rfl,E,_⟩;refine za (.bool false) (ai 3 V (bQ 3 11 12 [] [(12,(.int _ _))] (Hr_ 1 1 Hn_) E V V λ_=>wr 1 [] 13 14 [] [(13,(s.j==1))] trivial V V λ_=>zI 1 1 (λc5=>?_) λc5=>?_))
 ·refine bQ 1 15 18 [8] [(8,(decide (s.pp.b∈lv)))] (Hl_ 0 (ql 131 0 (bn.hc E) V V) (Hr_ 2 1 (Ho_ 3 (.o (.bool (decide (s.pp.b∈lv)))) (lkT 131 bt E V V V V) Hn_))) E V V λ_=>ag ⟨.inr V,_,V,_,w,_,fR,(HS.G9 E),V,a_5,a_5⟩
 refine wr 1 [] 19 20 [] [(19,(s.j==2))] trivial V V λ_=>zI 1 1 (λc8=>?_) λc8=>?_
 ·refine bQ 1 21 24 [8] [(8,(decide (s.pp.b∈la)))] (Hl_ 0 (ql 131 0 (c4.hc E) V V) (Hr_ 2 1 (Ho_ 3 (.o (.bool (decide (s.pp.b∈la)))) (lkT 131 c7 E V V V V) Hn_))) E V V λ_=>ag ⟨.inr V,_,V,_,w,_,fR,(HS.G9 E),V,a_5,a_5⟩
 refine wr 1 [] 25 26 [] [(25,(s.j==6))] trivial V V λ_=>zI 1 3 (λa4=>?_) λa4=>?_
 ·refine bQ 3 27 33 [9,10] [(9,(.int _ _)),(10,(.bool (nq fl _).isSome))] (Hl_ 0 (ql 133 0 (c6.hc E) V V) (Hr_ 2 1 (Ho_ 3 (.o (.tuple ⟨[(.int _ _),(.bool (nq fl _).isSome)]⟩)) (lkK 133 c9 E V V V V) Hn_))) E V V λ_=>wrp 1 34 41 [] [(41,((nq fl _).isSome&&(((nq fl _).getD 0) !=(s.y.length:Int))))] (dj 4 (λ_=>(ql 44 14 (i_ E V) V V)) Hn_) V V λ_=>zI 0 2 (λa5=>?_) λa5=>?_
  ·refine sgr 2 1 0 [] [] (Hr_ 0 0 Hn_) E V V λb0 b9 O=>wrp 1 42 48 [8] [(8,((nq fl _).isSome&&decide (s.pp.b∈lv)))] (dj 2 (λ_=>(ql 131 0 (bn.hc O) V V)) (dj 4 (λ_=>(ql 9 1 (i_ O V) V V)) (Ho_ 5 (.o (.bool (decide (s.pp.b∈lv)))) (λ(g1:_)=>(lkT 131 bt O V V V V)) Hn_))) V V λ_=>ag ⟨.inr V,_,V,_,5,_,fR,(HS.G9 O),V,a_5,a_5⟩
  refine wrp 1 42 48 [8] [(8,((nq fl _).isSome&&decide (s.pp.b∈lv)))] (dj 2 (λ_=>(ql 131 0 (bn.hc E) V V)) (dj 4 (λ_=>(ql 9 1 (i_ E V) V V)) (Ho_ 5 (.o (.bool (decide (s.pp.b∈lv)))) (λ(g1:_)=>(lkT 131 bt E V V V V)) Hn_))) V V λ_=>ag ⟨.inr V,_,V,_,w,_,fR,(HS.G9 E),V,a_5,a_5⟩
 refine wT 1 [] 8 8 [] [(8,true)] V λ_=>ag ⟨.inr V,_,V,true,w,_,fR,(HS.G9 E),V,a_5,a_5⟩
theorem fns_res{F}{bv ba bf bw mv ma mf:Nat}{lv la:List (List UInt8)}{fl:List (List UInt8×Int)}(a2:FzC F bv [(.map (some mv))])(aA:FzC F ba [(.map (some ma))])(a1:FzC F bf [(.map (some mf))])(a5:FzT F mv lv)(a3:FzT F ma la)(a4:FzK F mf fl):FnS ex (⟨99,[],[(pT bv 0),(pT ba 0),(pT bf 0),(pT bw 0)]⟩:FnV) (reS lv la fl) (psW bw) F:=
 ⟨⟨_,V,V⟩,λ_ _ _ _ _ _ _ _ _ _ s d w _ _ _ hF hs E O T U Z g5 g6 g7 g8 g9 k0 k1 k2 _ _ _=>res2_c ex s d lv la fl w hs E O T U Z g5 g6 g7 g8 g9 k0 k1 k2 (a2.ac hF) (aA.ac hF) (a1.ac hF) (a5.ac hF) (a3.ac hF) (a4.ac hF)⟩
def flE(g:FunT):List UInt8×Int:=(g.pp.b,(Q g.A:Int))
abbrev lvF(g:FunT):List (List UInt8):=tbS ([g.A,g.B]:List (List Str))
def reL5(la:List (List UInt8))(fl:List (List UInt8×Int)):List FunT->Int->Int
 | [],w=>w
 |g::l,w=>if wxF (λx _=>reE (lvF g) la x) g=true then if(wsL (reS (lvF g) la fl) g.G6 w 0).2=true then reL5 la fl l (wsL (reS (lvF g) la fl) g.G6 w 0).1 else 3 else 3
def resP(p:PrgT):Int:=reL5 (tbS ([p.d.map ArrT.pp]:List (List Str))) (p.U.map flE) p.U 0
section
variable {la:List (List UInt8)} {fl:List (List UInt8×Int)} {l:List FunT} {k:Nat} {w:Int}
theorem re_0(h:k<Q l):reL5 la fl (l.drop k) w=if wxF (λx _=>reE (lvF (Y l k n_)) la x) (Y l k n_)=true then if(wsL (reS (lvF (Y l k n_)) la fl) (Y l k n_).G6 w 0).2=true then reL5 la fl (l.drop (k+1)) (wsL (reS (lvF (Y l k n_)) la fl) (Y l k n_).G6 w 0).1 else 3 else 3:=by rw[drp5 (d:=n_) h,reL5]
theorem re_1(h:k<Q l)(c:wxF (λx _=>reE (lvF (Y l k n_)) la x) (Y l k n_)=false):reL5 la fl (l.drop k) w=3:=by rw[re_0 h,c];rfl
theorem re_2(h:k<Q l)(c:wxF (λx _=>reE (lvF (Y l k n_)) la x) (Y l k n_)=true)(c2:(wsL (reS (lvF (Y l k n_)) la fl) (Y l k n_).G6 w 0).2=false):reL5 la fl (l.drop k) w=3:=by rw[re_0 h,if_pos c,c2];rfl
theorem re_3(h:k<Q l)(c:wxF (λx _=>reE (lvF (Y l k n_)) la x) (Y l k n_)=true)(c2:(wsL (reS (lvF (Y l k n_)) la fl) (Y l k n_).G6 w 0).2=true):reL5 la fl (l.drop k) w=reL5 la fl (l.drop (k+1)) (wsL (reS (lvF (Y l k n_)) la fl) (Y l k n_).G6 w 0).1:=by rw[re_0 h,if_pos c,if_pos c2]
end
theorem sn_k{l:List FunT}{i:Nat}(h:i<Q l):(l.take i).map flE++[((Y (l.map FunT.pp) i n_).b,((Q (Y l i n_).A:Nat):Int))]=(l.take (i+1)).map flE:=by rw[a19,a08 h,a0N,a09,a09,a1J,a08 h];rfl
theorem resolve_c{c4 d5 c3 d4}(p:PrgT)(hs:Hb H F H [] R)(f2:Sr F c3 p.d d4)(a2:Sr F c4 p.U d5)(hn:NmP p)(ha:Q p.d<1000000000)(hm:Q p.U<1000000000):kKt ex 52 [(aG [(S_ c3 p.d d4),(S_ c4 p.U d5)])] H λv H'=> ∃(o:Int),∃F',F.le F'/\Hb H F' H' [] R/\v=iI o/\o=resP p:=by
 have⟨mg,mp,ms,fk⟩:=hn;refine ay Tryz.func52 V V (aj 1 V (ab (bd (aW hs V V) V V ?_)));rintro _ H2 _ ⟨b1,rfl,(ez:HS _ _ _ [(fP b1 [(S_ c3 p.d d4),(S_ c4 p.U d5)])] _),_⟩;refine za (.int _ 0) (ai 2 V (ab (wro 1 0 [(0,.o (aG [_,_]))] 15 15 [] [(15,(aG [_,_]))] (vA (qn 25 0 2 (h_ ez V) V V V V) trivial) V V λ_=>zc (de.decl_c ex p (HS.call ez) f2 a2 M M) ?_)));rintro _ H4 ⟨hI,hT,kA,hJ,hV,k4,F4,d7,e1,rfl,e8,bn,rfl,rfl⟩;replace e1:HS _ _ _ [_] _:=HS.G8 ez V e1;refine wro 5 2 [] 17 18 [3,4,14] [(3,(sL _ _ _)),(4,(sL _ _ _))] trivial V V λ_=>ai 2 V (ab (zm (sL _ _ _) (zlo ([p.d.map ArrT.pp]:List (List Str)) e1 V (RL.cs ⟨_,_,V,e8⟩ RL.nl) V λa6 k6 p6 H7 hg e3=>?_)))
 have e3:HS _ _ _ [_,p6] _:=e3;have⟨F8,cL,d8,hh,k5⟩:=OS.Gi hg e3 (i:=1) V;have d8:HS _ _ _ [_,[]] _:=d8;refine zc (de.set_c ex _ (HS.call d8) hh M (by(intro i hi;rcases i with _|_|_|i<;>first|exact fd|exact fi|(show List.length (List.map _ _)<_;rw[a1m];omega)|(simp at hi;omega)|(simp at hi;done)))) ?_;rintro _ H9 ⟨g8,t9,F9,c0,e4,rfl,an,rfl⟩;replace e4:HS _ _ _ [_,_] _:=HS.G8 d8 V e4;refine bd (rs_mapK e4) V V ?_;rintro _ it _ ⟨b5,rfl,(f5:HS _ _ _ [_,_,(tabJ b5 [])] _),_⟩;refine zn f5 V λbF iv c5=>?_
 have c5:HS _ _ _ [_,_,_,(fP bF [(.map none)])] _:=c5;refine zn c5 V λb6 i0 c6=>?_
 have c6:HS _ _ _ [_,_,_,_,(fP b6 [(.map none)])] _:=c6;refine gy (ck (q:=3) c6 V V V V V V V V V) V ?_;rintro _ i1 _ ⟨(f6:HS _ _ _ [_,_,_,(fP bF [(.map (some g8))]),_] _),_⟩;refine gy (ck (q:=4) f6 V V V V V V V V V) V ?_;rintro _ i2 _ ⟨(f7:HS _ _ _ [_,_,_,_,(fP b6 [(.map (some b5))])] _),_⟩;refine ai 3 V (wr 2 [] 23 25 [] [(23,(sL _ _ _)),(24,(.int _ _)),(25,(.int _ 0))] trivial V V λ_=>ak (λ(mm:Nat) f H'=> ∃(i:Nat) (aA:List (List UInt8×Int)),∃F',F9.le F'/\HS _ F' H' [_,[],(tabJ b5 aA),_,_] R/\aI f [(1,(pT b1 0)),(5,(pT bF 0)),(6,(pT b6 0)),(23,(sL _ _ _)),(24,(.int _ _)),(25,(.int _ (i:Int)))]/\mm=Q p.U-i/\(aA=(p.U.take i).map flE)/\(i<=Q p.U)) _ ⟨0,[],_,fR,f7,f_,V,k_,M⟩ ?_);rintro hW k0 i3 ⟨i,aA,h3,a8,ax,em,rfl,h1,hi⟩ g2;refine aw _ em (λ_=>?_);clear em;replace a2:=(((a2.ac d7).ac cL).ac c0).ac a8;replace bn:=((bn.ac cL).ac c0).ac a8;have an:=an.ac a8;refine aj 1 V (wr 2 [] 26 26 [] [(26,(decide ((i:Int)<(Q (p.U.map FunT.pp):Int))))] trivial V V λ_=>zd 4 5 (λea=>?_) λea=>?_)
 ·have m9:i<Q p.U:=by simpa using ea
  have⟨hK,g0⟩:=Sv.Gg (SR.sv bn ax);refine wr 1 [(2,.o (tX (Y (p.U.map FunT.pp) i _).b))] 27 29 [7,8] [(7,(.int _ _)),(8,(tX (Y (p.U.map FunT.pp) i _).b))] (vA (Sv.ix (SR.sv bn ax)) (vA (ql 9 0 (vS (g0 i)) V V) trivial)) V V λ_=>az V (zl 0 (HS.hc ax.G5 (i:=4) V) (zfm (tX (Y (p.U.map FunT.pp) i _).b) (zp 1 (zl 1 (HS.hc ax.G5 (i:=0) V) ?_))))
  refine zfm _ (zx _ i (SR.sv a2 ax.G5) (wfv (v:=(.pointer (some ⟨_,sO (sL _ _ _)+i *Rp.sz FunT+1,_⟩))) (bI V V) ?_));have⟨hQ,f3,fu⟩:=Sv.at (SR.sv a2 ax.G5) (aT (x:=n_) (show i<Q p.U from by omega));obtain⟨hl,hy,ho,hz,hp,hA,hq,hB,rfl,hr,ht,hu,fb,hC,hD,hF⟩:=f3;refine zl 1 fu (bh (gY V V (SR.sv fb ax.G5)) V V (mS V) (lC _) (ef (rs_updK ax.G5 (q:=2) V V V V V V) V (by rintro _ _ _ ⟨_,hwr⟩;exact dl V V (Wr.did hwr)) (kb V) ?_));rintro _ g6 _ ⟨bf,_⟩ g4 e7;replace bf:=HS.lg bf ax e7;generalize ({g6 with log:=g4}:Heap)=hH at bf⊢;have bf:HS _ _ _ [_,_,(tabJ b5 (aA++[((Y (p.U.map FunT.pp) i n_).b,(Q (Y p.U i n_).A:Int))])),_,_] _:=bf;refine fE (aj 2 V (wr 1 [] 25 25 [39] [(25,(.int _ _))] (vA (vi) trivial) V V λ_=>?_));refine g2 _ _ _ ?_ ⟨i+1,_,_,(a8),bf,f_,V,(by rw[h1,sn_k M]),M⟩;omega
 have m9:Q p.U<=i:=by simpa using ea
 refine ab (zn ax V λba i9 c7=>?_);have c7:HS _ _ _ [_,_,(tabJ b5 aA),_,_,(fP ba [(iI 0)])] _:=c7;refine gy (ck (q:=5) c7 V V V V V V V V V) V ?_;rintro _ jw _ ⟨(f9:HS _ _ _ [_,_,_,_,_,_] _),_⟩;refine ai 3 V ?_;obtain rfl:aA=p.U.map flE:=by rw[h1,a0s m9]
 have gm:HS _ _ _ [_,_,(tabJ b5 (p.U.map flE)),_,_,_] _:=f9;have⟨h4,b0,c8,b2⟩:=HS.frk gm (i:=2) V;have c8:HS _ _ _ [_,_,[],_,_,_] _:=c8;have⟨h5,bb,c9,a4⟩:=HS.frc c8 (i:=3) V;have c9:HS _ _ _ [_,_,_,[],_,_] _:=c9;have⟨g5,a9,dk,b3⟩:=HS.frc c9 (i:=4) V;have dk:HS _ _ _ [_,_,_,_,[],_] _:=dk;have e0:HS _ _ _ [_,_,_,_,_,(psW ba 0)] _:=dk;refine wr 2 [(1,.o (sL _ _ _))] 40 43 [] [(41,(sL _ _ _)),(42,(.int _ _)),(43,(.int _ 0))] (vA (ql 23 1 (h_ e0 V) V V) trivial) V V λ_=>ak (λ(mm:Nat) f H'=> ∃(k:Nat) (E:Int),∃F',g5.le F'/\HS _ F' H' [_,[],[],[],[],(psW ba E)] R/\aI f [(5,(pT bF 0)),(6,(pT b6 0)),(9,(pT ba 0)),(41,(sL _ _ _)),(42,(.int _ _)),(43,(.int _ (k:Int)))]/\mm=Q p.U-k/\(resP p=reL5 _ _ (p.U.drop k) E)/\(k<=Q p.U)) _ ⟨0,0,_,fR,e0,f_,V,k_,M⟩ ?_
 rintro hX k3 jA ⟨k,E,h6,a1,b8,et,rfl,g1,hk⟩ g3;refine aw _ et (λ_=>?_);clear et;replace b2:=((b2.ac bb).ac a9).ac a1;replace a4:=(a4.ac a9).ac a1;have b3:=b3.ac a1;replace a2:=(((a2.ac b0).ac bb).ac a9).ac a1;replace an:=(((an.ac b0).ac bb).ac a9).ac a1;refine aj 1 V (wr 2 [] 44 44 [] [(44,(decide ((k:Int)<(Q p.U:Int))))] trivial V V λ_=>zd 4 5 (λg9=>?_) λg9=>?_)
 ·have pm:=fk k M;have⟨lr,lx,lz,fd,fi,l3,l5,ma,mf⟩:=fk k M;refine ab ?_;have⟨O,e5⟩:=Sv.Gg (SR.sv a2 b8);have⟨hv,hw,hx,bt,bw,a7,ci⟩:=FunT.fx (e5 k);refine wro 2 0 [(1,.o (aG [_,_,_,_,_,_,_,_,_]))] 45 46 [] [(46,(aG [_,_,_,_,_,_,_,_,_]))] (vA (Sv.ix (SR.sv a2 b8)) (vA (qn 53 0 9 (FunT.vw (e5 k)) V V V V) trivial)) V V λ_=>zn b8 V λd9 j1 dn=>?_
  have dn:HS _ _ _ [_,_,_,_,_,(psW ba E),(fP d9 [(tX []),N_,N_,N_,(iI 0),(iI 0),(tX []),(iI 0),N_])] _:=dn;refine gy (ck (q:=6) dn V V V V V V V V V) V ?_;rintro _ j2 _ ⟨(dt:HS _ _ _ [_,_,_,_,_,_,(fP d9 [(tX (Y p.U k n_).pp.b),(sL (cA (O k) 1) (Q (Y p.U k n_).A) (cK (O k) 1)),(sL (cA (O k) 2) (Q (Y p.U k n_).B) (cK (O k) 2)),(sL (cA (O k) 3) (Q (Y p.U k n_).G6) (cK (O k) 3)),(Y p.U k n_).val.j,(Y p.U k n_).val.n,(tX (Y p.U k n_).val.pp.b),(Y p.U k n_).val.op,(sL (cA (O k) 8) (Q (Y p.U k n_).val.I) (cK (O k) 8))])] _),_⟩;refine ai 2 V (ab (wro 4 0 [(1,.o (sL _ _ _)),(3,.o (sL _ _ _))] 47 50 [] [(48,(sL _ _ _)),(50,(sL _ _ _))] (vA (ql 50 1 (HS.hc dt (i:=6) V) V V) (vA (ql 50 2 (HS.hc dt (i:=6) V) V V) trivial)) V V λ_=>zlo ([_,_]:List (List Str)) dt V (RL.cs ⟨_,_,V,bt⟩ (RL.cs ⟨_,_,V,bw⟩ RL.nl)) V λkx k7 hj kd f1 d1=>?_));have d1:HS _ _ _ [_,_,_,_,_,_,_,hj] _:=d1;have⟨h7,U,b9,f4,hS⟩:=OS.Gi f1 d1 (i:=7) V;have b9:HS _ _ _ [_,_,_,_,_,_,_,[]] _:=b9;refine zc (de.set_c ex _ (HS.call b9) f4 M (by(intro i hi;rcases i with _|_|_|i<;>first|exact fd|exact fi|(show List.length (List.map _ _)<_;rw[a1m];omega)|(simp at hi;omega)|(simp at hi;done)))) ?_;rintro _ ki ⟨fq,ll,h8,Z,d2,rfl,a5,rfl⟩;replace d2:HS _ _ _ [_,_,_,_,_,_,_,_] _:=HS.G8 b9 V d2;refine zn d2 V λco kk d3=>?_
  have d3:HS _ _ _ [_,_,_,_,_,_,_,_,(fP co [(.map none)])] _:=d3;refine gy (ck (q:=8) d3 V V V V V V V V V) V ?_;rintro _ kl _ ⟨(go:HS _ _ _ [_,_,_,_,_,_,_,_,(fP co [(.map (some fq))])] _),_⟩;refine ai 2 V ?_;have⟨h9,T,b4,b7⟩:=HS.frc go (i:=8) V;have b4:HS _ _ _ [_,_,_,_,_,_,_,_,[]] _:=b4;replace a4:=((a4.ac U).ac Z).ac T;have a5:=a5.ac T;replace an:=((an.ac U).ac Z).ac T;replace bt:=((bt.ac U).ac Z).ac T;replace bw:=((bw.ac U).ac Z).ac T;replace a7:=((a7.ac U).ac Z).ac T;replace ci:=((ci.ac U).ac Z).ac T;refine ab (wUo 2 0 [(0,.o (aG [(tX (Y p.U k n_).pp.b),(sL (cA (O k) 1) (Q (Y p.U k n_).A) (cK (O k) 1)),(sL (cA (O k) 2) (Q (Y p.U k n_).B) (cK (O k) 2)),(sL (cA (O k) 3) (Q (Y p.U k n_).G6) (cK (O k) 3)),(Y p.U k n_).val.j,(Y p.U k n_).val.n,(tX (Y p.U k n_).val.pp.b),(Y p.U k n_).val.op,(sL (cA (O k) 8) (Q (Y p.U k n_).val.I) (cK (O k) 8))]))] 53 54 [] [(53,(aG [_,_,_,_,_,_,_,_,_])),(54,(.func (.func 98) #[] #[(pT co 0),(pT bF 0)]))] (qn 53 0 9 (HS.hc b4 (i:=6) V) V V V V) V λ_=>zc (dc.ow ex _ _ _ (HS.call b4) bt bw a7 M M M ci (fne_res ex b7 a4 a5 an) (pm)) ?_);rintro _ kn ⟨k8,ia,al,bl,rfl,rfl⟩;replace bl:HS _ _ _ [_,_,_,_,_,_,_,_,_] _:=HS.G8 b4 V bl;replace b2:=(((b2.ac U).ac Z).ac T).ac al;have a4:=a4.ac al;replace b3:=(((b3.ac U).ac Z).ac T).ac al;have⟨b7,a5,an,a7⟩:=M4 al b7 a5 an a7;refine za (.bool (wxF (λx _=>reE (tbS ([(Y p.U k n_).A,(Y p.U k n_).B]:List (List Str))) (tbS ([p.d.map ArrT.pp]:List (List Str))) x) (Y p.U k n_))) (ai 2 V (ab (zm (.bool (wxF (λx _=>reE (tbS ([(Y p.U k n_).A,(Y p.U k n_).B]:List (List Str))) (tbS ([p.d.map ArrT.pp]:List (List Str))) x) (Y p.U k n_))) (zm (.bool (wxF (λx _=>reE (tbS ([(Y p.U k n_).A,(Y p.U k n_).B]:List (List Str))) (tbS ([p.d.map ArrT.pp]:List (List Str))) x) (Y p.U k n_))) (fg (v:=(wxF (λx _=>reE (tbS ([(Y p.U k n_).A,(Y p.U k n_).B]:List (List Str))) (tbS ([p.d.map ArrT.pp]:List (List Str))) x) (Y p.U k n_))) V V (λa3=>?_) (λa3=>?_))))))
  ·have d6:=a3;try simp only[BS]at d6
   refine ad (v:=(pT d9 3)) (bI V V) V V (aC V a3 (ad (v:=(sL (cA (O k) 3) (Q (Y p.U k n_).G6) (cK (O k) 3))) (aU (i:=3) V V (HS.hc bl (i:=6) V) V V) V V (aC V a3 (ad (v:=(.func (.func 99) #[] #[(pT co 0),(pT bF 0),(pT b6 0),(pT ba 0)])) (ap_mkf K_) V V (aC V a3 ?_)))));refine zc (db.jh ex (Y p.U k n_).G6 (0) (⟨99,[],[(pT co 0),(pT bF 0),(pT b6 0),(pT ba 0)]⟩:FnV) (reS (tbS ([(Y p.U k n_).A,(Y p.U k n_).B]:List (List Str))) (tbS ([p.d.map ArrT.pp]:List (List Str))) (p.U.map flE)) E (HS.Gh bl (i:=5) V) a7 (fns_res ex b7 a4 b3 a5 an b2) M M) ?_;rintro _ kt ⟨k9,h2,ik,ee,ch,rfl,rfl,rfl⟩;replace ch:HS _ _ _ [_,_,_,_,_,_,_,_,_] _:=HS.backOwn bl (i:=5) V V (λ_ hb=>hb) ch;refine ad (v:=(.bool ((wsL (reS (tbS ([(Y p.U k n_).A,(Y p.U k n_).B]:List (List Str))) (tbS ([p.d.map ArrT.pp]:List (List Str))) (p.U.map flE)) (Y p.U k n_).G6 E (0:Int)).2))) (aq V a3 V) V V (za (.bool ((wsL (reS (tbS ([(Y p.U k n_).A,(Y p.U k n_).B]:List (List Str))) (tbS ([p.d.map ArrT.pp]:List (List Str))) (p.U.map flE)) (Y p.U k n_).G6 E (0:Int)).2)) (aB (aj 2 V (wT 1 [] 63 64 [] [(64,(!((wsL (reS (tbS ([(Y p.U k n_).A,(Y p.U k n_).B]:List (List Str))) (tbS ([p.d.map ArrT.pp]:List (List Str))) (p.U.map flE)) (Y p.U k n_).G6 E (0:Int)).2)))] V λ_=>zI 1 2 (λhe=>?_) λhe=>?_))))
   ·refine wT 1 [] 2 2 [] [(2,(iI 3))] V λ_=>ag ⟨.inr V,_,V,3,_,(fT (fT (fT (fT (fT (fT (fT (fT (fT (fT (fT (fT (d7) cL) c0) a8) b0) bb) a9) a1) U) Z) T) al) ee),(HS.G3 ch),V,(by(rw[g1,re_2 M X X]))⟩
   refine wU 1 [] 43 43 [65] [(43,(iI ((k:Int)+1)))] (vi (n:=(k:Int)+1)) V λ_=>?_
   refine g3 _ _ _ ?_ ⟨k+1,(wsL (reS (tbS ([(Y p.U k n_).A,(Y p.U k n_).B]:List (List Str))) (tbS ([p.d.map ArrT.pp]:List (List Str))) (p.U.map flE)) (Y p.U k n_).G6 E (0:Int)).1,_,(fT (fT (fT (fT (fT (a1) U) Z) T) al) ee),(HS.sub ch (a06 _ _)),f_,V,(by rw[g1,re_3 M X X]),M⟩;omega
  have d6:=a3;try simp only[BS]at d6
  refine aK V a3 V (aK V a3 V (aK V a3 V (ad (v:=(.bool false)) (aH V a3 V) V V (za (.bool false) (aB ?_)))));refine aj 2 V (wT 1 [] 63 64 [] [(64,true)] V λ_=>bx 1 (v:=true) V V V V (wT 1 [] 2 2 [] [(2,(iI 3))] V λ_=>ag ⟨.inr V,_,V,3,_,(fT (fT (fT (fT (fT (fT (fT (fT (fT (fT (fT (d7) cL) c0) a8) b0) bb) a9) a1) U) Z) T) al),(HS.G3 bl),V,(by(rw[g1,re_1 M X]))⟩))
 have e2:HS _ _ _ [_,_,_,_,_,(fP ba [E])] _:=b8;refine wU 1 [(0,.o (iI E))] 2 2 [66] [(2,E)] (ql 33 0 (HS.hc e2 (i:=5) V) V V) V λ_=>ag ⟨.inr V,_,V,E,_,(fT (fT (fT (fT (fT (fT (fT (d7) cL) c0) a8) b0) bb) a9) a1),(HS.G3 e2),V,(by(rw[g1,dre5 M];rfl))⟩
def ckP(p:PrgT):Int:=if lmP p=false then 6 else if wfPr p=false then 2 else if dupPr p=true then 4 else resP p
theorem lm_small{p:PrgT}(h:lmP p=true):Q p.d<=4/\(Q p.U)<=8:=by unfold lmP lm0 at h;simp only[a04,a0K,a0H,decide_eq_false_iff_not]at h;omega
theorem a_6{p:Prop}(h:p:=by(unfold ckP;simp_all;done)):p:=h
theorem check5_c{a2 a5 a1 a4}(p:PrgT)(hs:Hb H F H [] R)(E:Sr F a1 p.d a4)(O:Sr F a2 p.U a5)(hn:NmP p):kKt ex 21 [(aG [(S_ a1 p.d a4),(S_ a2 p.U a5)])] H λv H'=> ∃(o:Int),∃F',F.le F'/\Hb H F' H' [] R/\v=iI o/\o=ckP p:=by
 refine ay Tryz.func21 V V (aj 1 V (ab (bd (aW hs V V) V V ?_)));rintro _ H2 _ ⟨b1,rfl,a3,_⟩;refine za (.int _ 0) (ai 4 V (ab (cS 1 0 4 4 [] [(4,(aG [_,_]))] (Hr_ 0 0 Hn_) a3 V V λ_=>zc (dd.limits_c ex p (HS.call a3) E O (hn)) ?_)));rintro _ H4 ⟨o4,F4,U,Z,rfl,rfl⟩;replace Z:=HS.G8 a3 V Z;have⟨E,O⟩:=M2 U E O;refine cu 2 2 3 3 [6] [(3,(!(lmP p)))] Hn_ V V λ_=>ai 1 V (zI 1 1 (λc6=>?_) λc6=>?_)
 ·refine wr 1 [] 2 2 [] [(2,(.int _ 6))] trivial V V λ_=>ag ⟨.inr V,_,V,6,_,(U),(HS.G3 Z),V,a_6⟩
 have b5:=lm_small (p:=p) (by simpa using c6);refine ab (cS 1 0 8 8 [] [(8,(aG [_,_]))] (Hr_ 0 0 Hn_) Z V V λ_=>zc (dc.wf5_c ex p (HS.call Z) E O (hn)) ?_);rintro _ H9 ⟨o9,F9,ax,al,rfl,rfl⟩;replace al:=HS.G8 Z V al;have⟨E,O⟩:=M2 ax E O;refine cu 2 2 7 7 [10] [(7,(!(wfPr p)))] Hn_ V V λ_=>ai 1 V (zI 1 1 (λa7=>?_) λa7=>?_)
 ·refine wr 1 [] 2 2 [] [(2,(.int _ 2))] trivial V V λ_=>ag ⟨.inr V,_,V,2,_,(fT (U) ax),(HS.G3 al),V,a_6⟩
 refine ab (cS 1 0 12 12 [] [(12,(aG [_,_]))] (Hr_ 0 0 Hn_) al V V λ_=>zc (de.dups_c ex p (HS.call al) E O M M M) ?_);rintro _ bf ⟨bn,ba,an,T,rfl,rfl⟩;replace T:=HS.G8 al V T;have⟨E,O⟩:=M2 an E O;refine za _ (ai 1 V (zI 1 3 (λa8=>?_) λa8=>?_))
 ·refine wr 1 [] 2 2 [] [(2,(.int _ 4))] trivial V V λ_=>ag ⟨.inr V,_,V,4,_,(fT (fT (U) ax) an),(HS.G3 T),V,a_6⟩
 refine ab (cS 1 0 14 14 [] [(14,(aG [_,_]))] (Hr_ 0 0 Hn_) T V V λ_=>zc (resolve_c ex p (HS.call T) E O M M M) ?_);rintro _ bl ⟨bt,bb,a6,aA,rfl,rfl⟩;replace aA:=HS.G8 T V aA;refine za _ (ai 1 V (ag ⟨.inr V,_,V,resP p,_,(fT (fT (fT (U) ax) an) a6),(HS.G3 aA),V,a_6⟩))
end df
open df
namespace dg
variable (ex:FuncId) {F:Fz} {H:Heap} {R:List Fp}
open cc cd ta
theorem fm_t1{e:ExpT}(h:e.j=4)(o:e.op=21)(k:(Q e.I:Int)=1):fmE e=[126]++opF (Y e.I 0 n_) false (fmE (Y e.I 0 n_)):=fm_t h o k
theorem fm_n1{e:ExpT}(h:e.j=4)(o:e.op=20)(k:(Q e.I:Int)=1)(q:(Y e.I 0 n_).j=1):fmE e=([45,40]++fmE (Y e.I 0 n_))++[41]:=by rw[fm_n h o k,opF_1 (.inr ⟨V,q⟩)];rfl
theorem fm_n2{e:ExpT}(h:e.j=4)(o:e.op=20)(k:(Q e.I:Int)=1)(q:(Y e.I 0 n_).j≠1):fmE e=[45]++opF (Y e.I 0 n_) false (fmE (Y e.I 0 n_)):=by
 rw[fm_n h o k];unfold opF;by_cases c:(Y e.I 0 n_).j=4\/(Y e.I 0 n_).j=5
 ·rw[if_pos (.inl c),if_pos (.inl c)]
 rw[if_neg (λd=>d.elim c (λd=>q d.2)),if_neg (λd=>d.elim c (λd=>Bool.noConfusion d.1))]
theorem join5_c{al ar}(l:List Str)(hs:Hb H F H [] R)(hl:Sr F al l ar)(hn:Q l<4611686018427387904)(aA:Q (jn8 l)<=1099511627776):kKt ex 24 [(S_ al l ar)] H λv H'=> ∃(x:List UInt8),H'=H/\v=tX x/\x=jn8 l:=by
 refine ay Tryz.func24 V V (aj 1 V (wr 2 [] 2 2 [] [(2,(tX []))] trivial V V λ_=>wr 3 [] 1 0 [3] [(3,(tX []))] trivial V V λ_=>wr 2 [] 6 8 [] [(6,(sL al _ ar)),(7,(.int _ _)),(8,(.int _ 0))] trivial V V λ_=>ak (λ(mm:Nat) f H'=> ∃(s:List UInt8) (i:Nat),H'=H/\aI f [(3,(tX s)),(6,(sL al _ ar)),(7,(.int _ _)),(8,(.int _ (i:Int)))]/\mm=Q l-i/\(jn8 l=s++jnR (decide (0<i)) (l.drop i))/\(i<=Q l)) _ ⟨[],0,V,f_,V,k_,M⟩ ?_));rintro ax f4 H ⟨s,i,rfl,O,rfl,E,hi⟩ T;refine aw _ O (λ_=>?_);clear O;refine aj 1 V (wr 2 [] 9 9 [] [(9,(decide ((i:Int)<(Q l:Int))))] trivial V V λ_=>zd 4 5 (λc6=>?_) λc6=>?_)
 ·have fb:=jn_b (i:=i) M E aA;have⟨an,Z⟩:=Sv.Gg (SR.sv hl hs);refine wrp 3 10 12 [4,5] [(4,(.int _ _)),(5,(tX (Y l i _).b))] (Ha_ (Sv.ix (SR.sv hl hs)) (Hl_ 2 (ql 9 0 (vS (Z i)) V V) Hn_)) V V λ_=>wr 1 [] 13 14 [] [(14,(decide ((0:Int)<(i:Int))))] trivial V V λ_=>zd 0 1 (λU=>?_) λU=>?_
  ·rw[if_pos (decide_eq_true M)]at fb;refine wr 1 [] 15 16 [3] [(3,(tX (s++[44,32])))] (vA (show(s:List UInt8).length+Q ([44,32]:List UInt8)<=1099511627776 from by(simp only[a00,a02,a03];omega)) trivial) V V λ_=>wr 2 [] 17 19 [3] [(3,(tX ((s++[44,32])++(Y l i _).b)))] (vA (show(s++[44,32]:List UInt8).length+Q ((Y l i _).b:List UInt8)<=1099511627776 from by(simp only[a00,a02,a03];omega)) trivial) V V λ_=>wr 1 [] 8 8 [20] [(8,(.int _ _))] (vA (vi) trivial) V V λ_=>?_
   refine T _ _ _ ?_ ⟨_,i+1,V,f_,V,(jn_s1 M E M),M⟩;omega
  rw[if_neg (by rw[decide_eq_true_eq];omega)]at fb;refine wr 2 [] 17 19 [3] [(3,(tX (s++(Y l i _).b)))] (vA (show(s:List UInt8).length+Q ((Y l i _).b:List UInt8)<=1099511627776 from by omega) trivial) V V λ_=>wr 1 [] 8 8 [20] [(8,(.int _ _))] (vA (vi) trivial) V V λ_=>?_
  refine T _ _ _ ?_ ⟨_,i+1,V,f_,V,(jn_s0 M E M),M⟩;omega
 refine wr 1 [] 2 2 [21] [(2,(tX s))] trivial V V λ_=>ag ⟨.inr V,_,V,s,V,V,(jn_end E M).symm⟩
theorem mK{E O}(l:List Str)(hs:Hb H F H [] R)(U:Sr F E l O)(Z:Q l<4611686018427387904)(T:Q (jn8 l)<=1099511627776):kKt ex 24 [(S_ E l O)] H λv H'=>v=(tX (jn8 l))/\H'=H:=
 cq (join5_c ex l hs U Z T) (by rintro _ _ ⟨_,rfl,rfl,rfl⟩;exact⟨V,V⟩)
theorem oper5_c(o:Int)(hs:Hb H F H [] R)(ho:4<=o/\o<=18):kKt ex 56 [o] H λv H'=> ∃(x:List UInt8),∃F',F.le F'/\Hb H F' H' [] R/\v=tX x/\x=opX o:=by
 refine ay Tryz.func56 V V (aj 1 V (wr 3 [] 2 2 [] [(2,(tX []))] trivial V V λ_=>wr 3 [] 3 3 [] [(3,(.int _ o))] trivial V V λ_=>wr 1 [] 4 5 [] [(4,(o==4))] trivial V V λ_=>zI 1 1 (λc4=>?_) λc4=>?_))
 ·refine wr 1 [] 2 2 [] [(2,(tX [43]))] trivial V V λ_=>ag ⟨.inr V,_,V,_,_,fR,(HS.G3 hs),V,(by(subst o;rfl))⟩
 refine wr 1 [] 6 7 [] [(6,(o==5))] trivial V V λ_=>zI 1 1 (λc7=>?_) λc7=>?_
 ·refine wr 1 [] 2 2 [] [(2,(tX [45]))] trivial V V λ_=>ag ⟨.inr V,_,V,_,_,fR,(HS.G3 hs),V,(by(subst o;rfl))⟩
 refine wr 1 [] 8 9 [] [(8,(o==6))] trivial V V λ_=>zI 1 1 (λE=>?_) λE=>?_
 ·refine wr 1 [] 2 2 [] [(2,(tX [42]))] trivial V V λ_=>ag ⟨.inr V,_,V,_,_,fR,(HS.G3 hs),V,(by(subst o;rfl))⟩
 refine wr 1 [] 10 11 [] [(10,(o==7))] trivial V V λ_=>zI 1 1 (λO=>?_) λO=>?_
 ·refine wr 1 [] 2 2 [] [(2,(tX [47]))] trivial V V λ_=>ag ⟨.inr V,_,V,_,_,fR,(HS.G3 hs),V,(by(subst o;rfl))⟩
 refine wr 1 [] 12 13 [] [(12,(o==8))] trivial V V λ_=>zI 1 1 (λT=>?_) λT=>?_
 ·refine wr 1 [] 2 2 [] [(2,(tX [37]))] trivial V V λ_=>ag ⟨.inr V,_,V,_,_,fR,(HS.G3 hs),V,(by(subst o;rfl))⟩
 refine wr 1 [] 14 15 [] [(14,(o==9))] trivial V V λ_=>zI 1 1 (λU=>?_) λU=>?_
 ·refine wr 1 [] 2 2 [] [(2,(tX [38]))] trivial V V λ_=>ag ⟨.inr V,_,V,_,_,fR,(HS.G3 hs),V,(by(subst o;rfl))⟩
 refine wr 1 [] 16 17 [] [(16,(o==10))] trivial V V λ_=>zI 1 1 (λZ=>?_) λZ=>?_
 ·refine wr 1 [] 2 2 [] [(2,(tX [124]))] trivial V V λ_=>ag ⟨.inr V,_,V,_,_,fR,(HS.G3 hs),V,(by(subst o;rfl))⟩
 refine wr 1 [] 18 19 [] [(18,(o==11))] trivial V V λ_=>zI 1 1 (λal=>?_) λal=>?_
 ·refine wr 1 [] 2 2 [] [(2,(tX [94]))] trivial V V λ_=>ag ⟨.inr V,_,V,_,_,fR,(HS.G3 hs),V,(by(subst o;rfl))⟩
 refine wr 1 [] 20 21 [] [(20,(o==12))] trivial V V λ_=>zI 1 1 (λan=>?_) λan=>?_
 ·refine wr 1 [] 2 2 [] [(2,(tX [60,60]))] trivial V V λ_=>ag ⟨.inr V,_,V,_,_,fR,(HS.G3 hs),V,(by(subst o;rfl))⟩
 refine wr 1 [] 22 23 [] [(22,(o==13))] trivial V V λ_=>zI 1 1 (λax=>?_) λax=>?_
 ·refine wr 1 [] 2 2 [] [(2,(tX [62,62,62]))] trivial V V λ_=>ag ⟨.inr V,_,V,_,_,fR,(HS.G3 hs),V,(by(subst o;rfl))⟩
 refine wr 1 [] 24 25 [] [(24,(o==14))] trivial V V λ_=>zI 1 1 (λaA=>?_) λaA=>?_
 ·refine wr 1 [] 2 2 [] [(2,(tX [62,62]))] trivial V V λ_=>ag ⟨.inr V,_,V,_,_,fR,(HS.G3 hs),V,(by(subst o;rfl))⟩
 refine wr 1 [] 26 27 [] [(26,(o==15))] trivial V V λ_=>zI 1 1 (λa1=>?_) λa1=>?_
 ·refine wr 1 [] 2 2 [] [(2,(tX [61,61]))] trivial V V λ_=>ag ⟨.inr V,_,V,_,_,fR,(HS.G3 hs),V,(by(subst o;rfl))⟩
 refine wr 1 [] 28 29 [] [(28,(o==16))] trivial V V λ_=>zI 1 1 (λa2=>?_) λa2=>?_
 ·refine wr 1 [] 2 2 [] [(2,(tX [33,61]))] trivial V V λ_=>ag ⟨.inr V,_,V,_,_,fR,(HS.G3 hs),V,(by(subst o;rfl))⟩
 refine wr 1 [] 30 31 [] [(30,(o==17))] trivial V V λ_=>zI 1 3 (λa3=>?_) λa3=>?_
 ·refine wr 1 [] 2 2 [] [(2,(tX [60]))] trivial V V λ_=>ag ⟨.inr V,_,V,_,_,fR,(HS.G3 hs),V,(by(subst o;rfl))⟩
 refine wr 1 [] 2 2 [] [(2,(tX [60,61]))] trivial V V λ_=>ag ⟨.inr V,_,V,_,_,fR,(HS.G3 hs),V,(by(cases (show o=18 by omega);rfl))⟩
def FmtAll5(ex:FuncId)(N:Nat):Prop:=
 (∀{E:Option Addr} {O:Nat} (e:ExpT) {F:Fz} {H:Heap} {R:List Fp} (hs:HS (.of H []) F H [] R) (he_0:in64 e.j) (he_1:in64 e.n) (he_3:in64 e.op) (he_4:SR F (sL E (Q e.I) O) e.I) (hn:ndE e<4611686018427387904) (hw:wfE e=true) (hlen:Q (fmE e)<=1099511627776) (hm:2 *ndE e<N),C Tryz.prog 0 (KX ex) 26 [(.agg ⟨[(iI e.j),(iI e.n),(tX e.pp.b),(iI e.op),(sL E (Q e.I) O)]⟩)] H λv H'=> ∃(x:List UInt8),∃F',F.le F'/\HS (.of H []) F' H' [] R/\v=tX x/\x=fmE e)/\
 (∀{E:Option Addr} {O:Nat} (e:ExpT) {F:Fz} {H:Heap} {R:List Fp} (hs:HS (.of H []) F H [] R) (he_0:in64 e.j) (he_1:in64 e.n) (he_3:in64 e.op) (he_4:SR F (sL E (Q e.I) O) e.I) (hn:ndE e<4611686018427387904) (hw:wfE e=true) (hlen:Q (opF e false (fmE e))<=1099511627776) (hm:2 *ndE e+1<N),C Tryz.prog 0 (KX ex) 55 [(.agg ⟨[(iI e.j),(iI e.n),(tX e.pp.b),(iI e.op),(sL E (Q e.I) O)]⟩)] H λv H'=> ∃(x:List UInt8),∃F',F.le F'/\HS (.of H []) F' H' [] R/\v=tX x/\x=opF e false (fmE e))
theorem expr5_c_s{bb ch}(e:ExpT)(hs:Hb H F H [] R)(h6:in64 e.j)(h7:in64 e.n)(h8:in64 e.op)(O:Sr F bb e.I ch)(hn:ndE e<4611686018427387904)(hw:wfE e=true)(cv:Q (fmE e)<=1099511627776)(N:Nat)(ih:FmtAll5 ex N)(hm:2 *ndE e<N+1):kKt ex 26 [(aG [e.j,e.n,(tX e.pp.b),e.op,(S_ bb e.I ch)])] H λv H'=> ∃(x:List UInt8),∃F',F.le F'/\Hb H F' H' [] R/\v=tX x/\x=fmE e:=by
 have k6:=nd_e e;have⟨a4,ci⟩:=ft hw;refine ay Tryz.func26 V V (aj 1 V (ab (bd (aW hs V V) V V ?_)));rintro _ H2 _ ⟨b1,rfl,E,_⟩;refine za (tX []) (ai 4 V (bQ 1 3 6 [] [(3,(e.j==1))] (Hr_ 1 0 Hn_) E V V λ_=>zI 1 1 (λc4=>?_) λc4=>?_))
 ·refine ab (cS 2 0 7 8 [] [(8,(.int _ e.n))] (Hr_ 1 0 Hn_) E V V λ_=>zc (w3.text_c ex e.n (HS.call E) M) ?_);rintro _ H6 ⟨r6,F6,f4,bw,rfl,rfl⟩;replace bw:=HS.G8 E V bw;refine za _ (ai 1 V (ag ⟨.inr V,_,V,_,_,(f4),(HS.G3 bw),V,(fm_1 M).symm⟩))
 refine bQ 1 10 13 [] [(10,(e.j==2))] (Hr_ 1 0 Hn_) E V V λ_=>zI 1 1 (λc8=>?_) λc8=>?_
 ·refine bQ 1 14 15 [2] [(2,(tX e.pp.b))] (Hr_ 1 0 Hn_) E V V λ_=>ag ⟨.inr V,_,V,_,_,fR,(HS.G3 E),V,(fm_2 M).symm⟩
 refine bQ 1 16 19 [] [(16,(e.j==3))] (Hr_ 1 0 Hn_) E V V λ_=>zI 1 1 (λfq=>?_) λfq=>?_
 ·have aA:=wfN_3 M ci;have al:=fm_3 (e:=e) M aA.1;have an:=cv;rw[al]at an;simp only[a00,a02,a03]at an;have⟨a5,a6,a7⟩:=oY (i:=0) a4 (show 0<(Q e.I) by omega);refine az V ?_;have⟨hT,bF⟩:=Sv.Gg (SR.sv O E);have⟨gm,go,g0,dk⟩:=ExpT.fx (bF 0);refine cC 7 20 26 [] [(22,(tX (e.pp.b++[91]))),(26,(aG [_,_,_,_,_]))] (Hr_ 1 0 (Ha_ (show(e.pp.b:List UInt8).length+Q ([91]:List UInt8)<=1099511627776 from by(simp only[a00,a02,a03];omega)) (Hr_ 4 0 (Ha_ (Sv.ix (SR.sv O E)) (Hl_ 6 (qn 46 0 5 (hc0 (ExpT.vw (bF 0))) V V V V) Hn_))))) E V V λ_=>bH (bj V V V) V V V (ih.1 _ (HS.call E.G5) M M M dk M M M M) (⟨.inl V,.inl V,.inl V,.inl V,.inr trivial,.inr a0g,l_⟩) ?_
  rintro _ e6 ⟨kk,h9,d8,a1,rfl,rfl⟩;refine⟨Wr.did a1.log,λez cL=>?_⟩;replace a1:=HS.G8 E.G5 V a1;replace a1:=HS.lg a1 E cL;generalize ({e6 with log:=ez}:Heap)=hD at a1⊢;refine cC 3 28 29 [2] [(2,(tX (((e.pp.b++[91])++(fmE (Y e.I 0 _)))++[93])))] (Ha_ (show(e.pp.b++[91]:List UInt8).length+Q (fmE (Y e.I 0 _):List UInt8)<=1099511627776 from by(simp only[a00,a02,a03];omega)) (Ha_ (show((e.pp.b++[91])++(fmE (Y e.I 0 _)):List UInt8).length+Q ([93]:List UInt8)<=1099511627776 from by(simp only[a00,a02,a03];omega)) Hn_)) a1 V V λ_=>aQ 1 V (ag ⟨.inr V,_,V,_,_,(d8),(HS.G3 a1),V,(al.symm)⟩)
 refine bQ 1 30 33 [] [(30,(e.j==5))] (Hr_ 1 0 Hn_) E V V λ_=>zI 1 1 (λfu=>?_) λfu=>?_
 ·have aA:=wfN_5 M ci;have al:=fm_5 (e:=e) M aA;have an:=cv;rw[al]at an;simp only[a00,a02,a03]at an;have⟨a5,a6,a7⟩:=oY (i:=0) a4 (show 0<(Q e.I) by omega);have⟨f5,f6,f7⟩:=oY (i:=1) a4 (show 1<(Q e.I) by omega);have⟨j2,kd,ki⟩:=oY (i:=2) a4 (show 2<(Q e.I) by omega);refine az V ?_;have⟨hV,b0⟩:=Sv.Gg (SR.sv O E);have⟨g2,g3,g4,dn⟩:=ExpT.fx (b0 0);refine cC 4 34 37 [] [(37,(aG [_,_,_,_,_]))] (Hr_ 1 0 (Ha_ (Sv.ix (SR.sv O E)) (Hl_ 3 (qn 46 0 5 (hc0 (ExpT.vw (b0 0))) V V V V) Hn_))) E V V λ_=>bH (W:=[]) (bj V V V) V V V (ih.2 _ (HS.call E.G5) M M M dn M M M M) (kb V) ?_
  rintro _ e7 ⟨kl,ia,bf,T,rfl,rfl⟩;refine⟨Wr.did T.log,λe0 c0=>?_⟩;replace T:=HS.G8 E.G5 V T;replace T:=HS.lg T E c0;generalize ({e7 with log:=e0}:Heap)=hF at T⊢;have O:=O.ac bf;refine cC 2 39 40 [] [(39,(tX ((opF _ _ _)++[32,63,32]))),(40,(pT b1 4))] (Ha_ (show(opF _ _ _:List UInt8).length+Q ([32,63,32]:List UInt8)<=1099511627776 from by(simp only[a00,a02,a03];omega)) Hn_) T V V λ_=>bh (aU (i:=4) V V (HS.hc T.G5 (i:=0) V) V V) V V (iz V) (⟨.inl V,.inr trivial,.inr a0g,l_⟩) ?_
  have⟨hW,b2⟩:=Sv.Gg (SR.sv O T);have⟨g5,g6,g7,dt⟩:=ExpT.fx (b2 1);refine cC 2 42 43 [] [(43,(aG [_,_,_,_,_]))] (Ha_ (Sv.ix (SR.sv O T)) (Hl_ 9 (qn 46 0 5 (hc0 (ExpT.vw (b2 1))) V V V V) Hn_)) T V V λ_=>bH (W:=[]) (bj V V V) V V V (ih.2 _ (HS.call T.G5) M M M dt M M M M) (kb V) ?_
  rintro _ e8 ⟨kn,ik,bl,U,rfl,rfl⟩;refine⟨Wr.did U.log,λe1 c3=>?_⟩;replace U:=HS.G8 T.G5 V U;replace U:=HS.lg U T c3;generalize ({e8 with log:=e1}:Heap)=hG at U⊢;have O:=O.ac bl;refine cC 3 45 47 [] [(46,(tX ((((opF _ _ _)++[32,63,32])++(opF _ _ _))++[32,58,32]))),(47,(pT b1 4))] (Ha_ (show((opF _ _ _)++[32,63,32]:List UInt8).length+Q (opF _ _ _:List UInt8)<=1099511627776 from by(simp only[a00,a02,a03];omega)) (Ha_ (show(((opF _ _ _)++[32,63,32])++(opF _ _ _):List UInt8).length+Q ([32,58,32]:List UInt8)<=1099511627776 from by(simp only[a00,a02,a03];omega)) Hn_)) U V V λ_=>bh (aU (i:=4) V V (HS.hc U.G5 (i:=0) V) V V) V V (iz V) (⟨.inl V,.inr trivial,.inr trivial,.inr a0g,.inr trivial,.inr trivial,.inr trivial,.inr trivial,.inr trivial,.inr a0g,l_⟩) ?_
  have⟨hX,b3⟩:=Sv.Gg (SR.sv O U);have⟨g8,g9,he,d1⟩:=ExpT.fx (b3 2);refine cC 2 49 50 [] [(50,(aG [_,_,_,_,_]))] (Ha_ (Sv.ix (SR.sv O U)) (Hl_ 16 (qn 46 0 5 (hc0 (ExpT.vw (b3 2))) V V V V) Hn_)) U V V λ_=>bH (W:=[]) (bj V V V) V V V (ih.2 _ (HS.call U.G5) M M M d1 M M M M) (kb V) ?_
  rintro _ fb ⟨kt,it,d9,a2,rfl,rfl⟩;refine⟨Wr.did a2.log,λe2 c5=>?_⟩;replace a2:=HS.G8 U.G5 V a2;replace a2:=HS.lg a2 U c5;generalize ({fb with log:=e2}:Heap)=hH at a2⊢;refine cC 2 2 2 [52] [(2,(tX (((((opF _ _ _)++[32,63,32])++(opF _ _ _))++[32,58,32])++(opF _ _ _))))] (Ha_ (show((((opF _ _ _)++[32,63,32])++(opF _ _ _))++[32,58,32]:List UInt8).length+Q (opF _ _ _:List UInt8)<=1099511627776 from by(simp only[a00,a02,a03];omega)) Hn_) a2 V V λ_=>aQ 1 V (ag ⟨.inr V,_,V,_,_,(fT (fT (bf) bl) d9),(HS.G3 a2),V,(al.symm)⟩)
 have aA:=wfN_4 M M M M ci;refine bQ 1 53 56 [] [(53,(e.op==21))] (Hr_ 1 0 Hn_) E V V λ_=>zI 1 1 (λf1=>?_) λf1=>?_
 ·have al:=fm_t1 (e:=e) aA.1 M (aA.2.2 M);have an:=cv;rw[al]at an;simp only[a00,a02,a03]at an;have⟨a5,a6,a7⟩:=oY (i:=0) a4 (show 0<(Q e.I) by have:=aA.2.2 M;omega);refine ab ?_;have⟨h0,b4⟩:=Sv.Gg (SR.sv O E);have⟨hf,hg,hh,d2⟩:=ExpT.fx (b4 0);refine cS 4 0 57 60 [] [(60,(aG [_,_,_,_,_]))] (Hr_ 1 0 (Ha_ (Sv.ix (SR.sv O E)) (Hl_ 3 (qn 46 0 5 (ExpT.vw (b4 0)) V V V V) Hn_))) E V V λ_=>zc (ih.2 _ (HS.call E) M M M d2 M M M M) ?_
  rintro _ jw ⟨kx,iv,ea,a8,rfl,rfl⟩;replace a8:=HS.G8 E V a8;refine cu 2 5 2 2 [62] [(2,(tX ([126]++(opF _ _ _))))] (Ha_ (show([126]:List UInt8).length+Q (opF _ _ _:List UInt8)<=1099511627776 from by omega) Hn_) V V λ_=>ai 1 V (ag ⟨.inr V,_,V,_,_,(ea),(HS.G3 a8),V,(al.symm)⟩)
 have⟨h1,b5⟩:=Sv.Gg (SR.sv O E);have⟨hj,hk,hl,hC⟩:=ExpT.fx (b5 0);refine bQ 1 63 74 [] [(63,((e.op==20)&&((Y e.I 0 _).j==1)))] (Hr_ 1 0 (dj 5 (λ_=>(ql 44 4 (h_ E V) V V)) (Ha_ (λ(g1:_)=>(Sv.ix (SR.sv O E) e_ (by(try simp only[BS]at g1);(first|omega|(dsimp only;omega)|(simp only[a00,a02,a03];omega))))) (dj 8 (λg1=>(ql 3 0 (ExpT.vw (b5 0) (by(try simp only[BS]at g1);(first|omega|(dsimp only;omega)|(simp only[a00,a02,a03];omega)))) V V)) Hn_)))) E V V λ_=>zI 1 1 (λf2=>?_) λf2=>?_
 ·have al:=fm_n1 (e:=e) aA.1 M (aA.2.2 M) M;have an:=cv;rw[al]at an;simp only[a00,a02,a03]at an;have⟨a5,a6,a7⟩:=oY (i:=0) a4 (show 0<(Q e.I) by have:=aA.2.2 M;omega);refine ab ?_;have⟨h2,b6⟩:=Sv.Gg (SR.sv O E);have⟨ho,hp,hq,d3⟩:=ExpT.fx (b6 0);refine cS 4 0 75 78 [] [(78,(aG [_,_,_,_,_]))] (Hr_ 1 0 (Ha_ (Sv.ix (SR.sv O E)) (Hl_ 3 (qn 46 0 5 (ExpT.vw (b6 0)) V V V V) Hn_))) E V V λ_=>zc (ih.1 _ (HS.call E) M M M d3 M M M M) ?_
  rintro _ jA ⟨kA,i0,ee,a9,rfl,rfl⟩;replace a9:=HS.G8 E V a9;refine cu 3 5 80 81 [2] [(2,(tX (([45,40]++(fmE (Y e.I 0 _)))++[41])))] (Ha_ (show([45,40]:List UInt8).length+Q (fmE (Y e.I 0 _):List UInt8)<=1099511627776 from by(simp only[a00,a02,a03];omega)) (Ha_ (show([45,40]++(fmE (Y e.I 0 _)):List UInt8).length+Q ([41]:List UInt8)<=1099511627776 from by(simp only[a00,a02,a03];omega)) Hn_)) V V λ_=>ai 1 V (ag ⟨.inr V,_,V,_,_,(ee),(HS.G3 a9),V,(al.symm)⟩)
 refine bQ 1 82 85 [] [(82,(e.op==20))] (Hr_ 1 0 Hn_) E V V λ_=>zI 1 3 (λf3=>?_) λf3=>?_
 ·have al:=fm_n2 (e:=e) aA.1 M (aA.2.2 M) M;have an:=cv;rw[al]at an;simp only[a00,a02,a03]at an;have⟨a5,a6,a7⟩:=oY (i:=0) a4 (show 0<(Q e.I) by have:=aA.2.2 M;omega);refine ab ?_;have⟨h3,b7⟩:=Sv.Gg (SR.sv O E);have⟨hr,ht,hu,d4⟩:=ExpT.fx (b7 0);refine cS 4 0 86 89 [] [(89,(aG [_,_,_,_,_]))] (Hr_ 1 0 (Ha_ (Sv.ix (SR.sv O E)) (Hl_ 3 (qn 46 0 5 (ExpT.vw (b7 0)) V V V V) Hn_))) E V V λ_=>zc (ih.2 _ (HS.call E) M M M d4 M M M M) ?_
  rintro _ j1 ⟨k0,i1,em,ba,rfl,rfl⟩;replace ba:=HS.G8 E V ba;refine cu 2 5 2 2 [91] [(2,(tX ([45]++(opF _ _ _))))] (Ha_ (show([45]:List UInt8).length+Q (opF _ _ _:List UInt8)<=1099511627776 from by omega) Hn_) V V λ_=>ai 1 V (ag ⟨.inr V,_,V,_,_,(em),(HS.G3 ba),V,(al.symm)⟩)
 have f9:=aA.2.1 M;have al:=fm_b (e:=e) aA.1 M M f9.1;have an:=cv;rw[al]at an;simp only[a00,a02,a03]at an;have⟨a5,a6,a7⟩:=oY (i:=0) a4 (show 0<(Q e.I) by omega);have⟨f5,f6,f7⟩:=oY (i:=1) a4 (show 1<(Q e.I) by omega);refine az V ?_;have⟨h4,b8⟩:=Sv.Gg (SR.sv O E);have⟨hv,hx,hy,d5⟩:=ExpT.fx (b8 0);refine cC 4 92 95 [] [(95,(aG [_,_,_,_,_]))] (Hr_ 1 0 (Ha_ (Sv.ix (SR.sv O E)) (Hl_ 3 (qn 46 0 5 (hc0 (ExpT.vw (b8 0))) V V V V) Hn_))) E V V λ_=>bH (W:=[]) (bj V V V) V V V (ih.2 _ (HS.call E.G5) M M M d5 M M M M) (kb V) ?_
 rintro _ fd ⟨k3,i2,bn,ax,rfl,rfl⟩;refine⟨Wr.did ax.log,λe3 c6=>?_⟩;replace ax:=HS.G8 E.G5 V ax;replace ax:=HS.lg ax E c6;generalize ({fd with log:=e3}:Heap)=hI at ax⊢;refine cC 2 97 98 [] [(97,(tX ((opF _ _ _)++[32]))),(98,(pT b1 3))] (Ha_ (show(opF _ _ _:List UInt8).length+Q ([32]:List UInt8)<=1099511627776 from by(simp only[a00,a02,a03];omega)) Hn_) ax V V λ_=>bh (aU (i:=3) V V (HS.hc ax.G5 (i:=0) V) V V) V V (iz V) (⟨.inl V,.inr trivial,.inr a0g,l_⟩) (bH (W:=[]) (bj V V V) V V V (oper5_c ex _ (HS.call ax.G5) M) (kb V) ?_)
 rintro _ fi ⟨k4,i3,bt,Z,rfl,rfl⟩;refine⟨Wr.did Z.log,λe4 c7=>?_⟩;replace Z:=HS.G8 ax.G5 V Z;replace Z:=HS.lg Z ax c7;generalize ({fi with log:=e4}:Heap)=hJ at Z⊢;replace O:=(O.ac bn).ac bt;refine cC 3 101 103 [] [(102,(tX ((((opF _ _ _)++[32])++(opX e.op))++[32]))),(103,(pT b1 4))] (Ha_ (show((opF _ _ _)++[32]:List UInt8).length+Q (opX e.op:List UInt8)<=1099511627776 from by(simp only[a00,a02,a03];omega)) (Ha_ (show(((opF _ _ _)++[32])++(opX e.op):List UInt8).length+Q ([32]:List UInt8)<=1099511627776 from by(simp only[a00,a02,a03];omega)) Hn_)) Z V V λ_=>bh (aU (i:=4) V V (HS.hc Z.G5 (i:=0) V) V V) V V (iz V) (⟨.inl V,.inr trivial,.inr trivial,.inr a0g,.inr trivial,.inr trivial,.inr trivial,.inr a0g,l_⟩) ?_
 have⟨h5,b9⟩:=Sv.Gg (SR.sv O Z);have⟨hz,hA,hB,d6⟩:=ExpT.fx (b9 1);refine cC 2 105 106 [] [(106,(aG [_,_,_,_,_]))] (Ha_ (Sv.ix (SR.sv O Z)) (Hl_ 14 (qn 46 0 5 (hc0 (ExpT.vw (b9 1))) V V V V) Hn_)) Z V V λ_=>bH (W:=[]) (bj V V V) V V V (ih.2 _ (HS.call Z.G5) M M M d6 M M M M) (kb V) ?_
 rintro _ fk ⟨k5,i9,et,a3,rfl,rfl⟩;refine⟨Wr.did a3.log,λe5 c9=>?_⟩;replace a3:=HS.G8 Z.G5 V a3;replace a3:=HS.lg a3 Z c9;generalize ({fk with log:=e5}:Heap)=hK at a3⊢;refine cC 2 2 2 [108] [(2,(tX (((((opF _ _ _)++[32])++(opX e.op))++[32])++(opF _ _ _))))] (Ha_ (show((((opF _ _ _)++[32])++(opX e.op))++[32]:List UInt8).length+Q (opF _ _ _:List UInt8)<=1099511627776 from by(simp only[a00,a02,a03];omega)) Hn_) a3 V V λ_=>aQ 1 V (ag ⟨.inr V,_,V,_,_,(fT (fT (bn) bt) et),(HS.G3 a3),V,(al.symm)⟩)
theorem operand5_c_s{T an}(e:ExpT)(hs:Hb H F H [] R)(a2:in64 e.j)(a3:in64 e.n)(a4:in64 e.op)(U:Sr F T e.I an)(hn:ndE e<4611686018427387904)(hw:wfE e=true)(ar:Q (opF e false (fmE e))<=1099511627776)(N:Nat)(ih:FmtAll5 ex N)(hm:2 *ndE e+1<N+1):kKt ex 55 [(aG [e.j,e.n,(tX e.pp.b),e.op,(S_ T e.I an)])] H λv H'=> ∃(x:List UInt8),∃F',F.le F'/\Hb H F' H' [] R/\v=tX x/\x=opF e false (fmE e):=by
 have a5:=op_len e false (fmE e);refine ay Tryz.func55 V V (aj 1 V (ab (bd (aW hs V V) V V ?_)));rintro _ H2 _ ⟨b1,rfl,E,_⟩;refine za (tX []) (ai 3 V (bQ 1 3 10 [] [(10,((e.j==4)||(e.j==5)))] (Hr_ 1 0 (dj 5 (λ_=>(ql 3 0 (h_ E V) V V)) Hn_)) E V V λ_=>zi 1 2 (λO=>?_) λO=>?_))
 ·try simp only[BS]at O
  have zc:=O;have ax:=ar;rw[opF_1 (.inl O)]at ax;simp only[a00,a02,a03]at ax;refine ab (cS 1 0 11 11 [] [(11,(aG [_,_,_,_,_]))] (Hr_ 0 0 Hn_) E V V λ_=>lW (bj V V V) V V (ih.1 e (HS.call E) M M M U M M M M) ?_);rintro _ H6 ⟨x6,F6,aA,Z,rfl,rfl⟩;replace Z:=HS.G8 E V Z;refine cu 3 2 13 14 [2] [(2,(tX (([40]++(fmE e))++[41])))] (Ha_ (show([40]:List UInt8).length+Q (fmE e:List UInt8)<=1099511627776 from by(simp only[a00,a02,a03];omega)) (Ha_ (show([40]++(fmE e):List UInt8).length+Q ([41]:List UInt8)<=1099511627776 from by(simp only[a00,a02,a03];omega)) Hn_)) V V λ_=>ai 1 V (ag ⟨.inr V,_,V,_,_,(aA),(HS.G3 Z),V,(opF_1 (.inl zc)).symm⟩)
 try simp only[BS]at O
 have zc:=O;refine ab (cS 1 0 15 15 [] [(15,(aG [_,_,_,_,_]))] (Hr_ 0 0 Hn_) E V V λ_=>lW (bj V V V) V V (ih.1 e (HS.call E) M M M U M M M M) ?_);rintro _ H9 ⟨x9,F9,a1,al,rfl,rfl⟩;replace al:=HS.G8 E V al;refine za _ (ai 1 V (ag ⟨.inr V,_,V,_,_,(a1),(HS.G3 al),V,(opF_0 ⟨zc,by simp⟩).symm⟩))
theorem jL(ex:FuncId): ∀N,FmtAll5 ex N
 |0=>⟨by intros;omega,by intros;omega⟩
 |N+1=>⟨by intros;apply expr5_c_s ex (N:=N) (ih:=jL ex N)<;>assumption,by intros;apply operand5_c_s ex (N:=N) (ih:=jL ex N)<;>assumption⟩
theorem ir{E O}(e:ExpT)(hs:Hb H F H [] R)(T:in64 e.j)(U:in64 e.n)(Z:in64 e.op)(al:Sr F E e.I O)(hn:ndE e<4611686018427387904)(hw:wfE e=true)(an:Q (fmE e)<=1099511627776):kKt ex 26 [(aG [e.j,e.n,(tX e.pp.b),e.op,(S_ E e.I O)])] H λv H'=> ∃(x:List UInt8),∃F',F.le F'/\Hb H F' H' [] R/\v=tX x/\x=fmE e:=by apply(jL ex (2 *ndE e+1)).1<;>first|assumption|exact a0y _
end dg
open dg
namespace dp
open Go.R w1 w3 l1 pt ca cc cd ta tb db dc dd de df
theorem fk_name{u:List UInt8}(h:(aL u).1=1):inNm (aL u).2.1=true/\0<aN u:=by
 unfold aL at h⊢;split at h
 ·split at h<;>first|exact absurd (show(3:Int)=1 from h) e_|exact absurd (show(2:Int)=1 from h) e_|exact absurd (show(0:Int)=1 from h) e_
 next E=>
 split at h
 ·split at h<;>first|exact absurd (show(3:Int)=1 from h) e_|exact absurd (show(2:Int)=1 from h) e_|exact absurd (show(0:Int)=1 from h) e_
 next O=>
 split at h
 ·exact absurd h e_
 next T=>
 rw[if_neg E,if_neg O,if_neg T];refine⟨?_,M⟩;have e:u.take (aN u)=u.takeWhile br:=by unfold aN;exact(List.prefix_iff_eq_take.1 (List.takeWhile_prefix _)).symm
 unfold inNm;simp only[a04,decide_eq_true_eq];have hl:Q (u.take (aN u))=aN u:=by rw[a0V];have:=ku u;omega
 refine⟨⟨⟨?_,by rw[e];exact List.all_takeWhile⟩,M⟩,M⟩;have Z:=(ph.word_head (s:=u)).2 E;have U:Y (u.take (aN u)) 0 0=Y u 0 0:=by
  cases u with
  |nil=>rfl
  |cons c u=>obtain⟨m,hm⟩: ∃m,aN (c::u)=m+1:=⟨aN (c::u)-1,M⟩;rw[hm];rfl
 rw[U];unfold br at Z;cases hd:bG (Y u 0 0) with
 |true=>exact absurd hd O
 |false=>rw[hd,Bool.or_false]at Z;exact Z
theorem sc_no{s:List UInt8}(h:scK s=false):inNm s=true:=by
 unfold scK at h;simp only[a0H,bne_eq_false_iff_eq]at h;have⟨⟨⟨E,O⟩,T⟩,U⟩:=h;unfold bU at E O T U;by_cases hl:20000<Q s
 ·rw[if_pos hl]at E;exact absurd E e_
 rw[if_neg hl]at E O T U;rw[dJ]at E O T U;by_cases ha:spl false s<Q s
 ·rw[if_pos ha]at E O T U;by_cases he:(aL (s.drop (spl false s))).2.2=0
  ·rw[if_pos he]at E O T U;unfold consT at E O T U;split at E
   ·next hr=>
    rw[if_pos hr]at T U;have Z:(aL (s.drop (spl false s))).1=1:=T;have al:(aL (s.drop (spl false s))).2.1=s:=U;have:=(fk_name Z).1;rwa [al]at this
   next hr=>exact absurd E hr
  rw[if_neg he]at E;exact absurd E he
 rw[if_neg ha]at O;exact absurd O e_
theorem nm_sc{s:List UInt8}(h:inNm s=true):bU s=([⟨1,⟨s⟩,0⟩],0,0):=by
 unfold inNm at h;simp only[a04,decide_eq_true_eq]at h;have⟨⟨⟨E,O⟩,T⟩,U⟩:=h;have hw:aN s=Q s:=by exact(hZ (a07 _) (by rw[a0W];exact O) (λh=>absurd h (Nat.lt_irrefl _))).symm
 have hd:bG (Y s 0 0)=false:=by
  generalize Y s 0 0=c at E;cases e:bG c with
  |false=>rfl
  |true=>
   unfold cO at E;unfold bG at e
   simp only[a04,a0E,decide_eq_true_eq,beq_iff_eq]at E e
   omega
 have hs:spl false s=0:=by
  cases s with
  |nil=>rfl
  |cons c s=>
   have E:cO c=true:=E
   rw[spl]
   unfold cO at E
   simp only[a04,a0E,decide_eq_true_eq,beq_iff_eq]at E
   rw[if_neg,if_neg]
   ·rintro rfl;exact absurd E e_
   rintro(rfl|rfl|rfl|rfl)<;>exact absurd E e_
 have Z:aL s=(1,s,0):=by unfold aL;rw[if_neg M,if_neg (by rw[hd];decide),if_neg M,hw,a0W]
 unfold bU;rw[if_neg M,hs,dJ,if_pos M,a0R,Z];rw[if_pos rfl];show consT ⟨1,⟨s⟩,((0:Nat):Int)⟩ (dJ (Q s) s (0+Q s+spl false (s.drop (0+Q s))))=_;rw[a0x,a0Z (a07 _)];have:dJ (Q s) s (Q s+spl false [])=([],0,0):=by
  show dJ (Q s) s (Q s+0)=_;cases hn:(Q s) with
  |zero=>omega
  |succ n=>rw[dJ,if_neg M]
 rw[this];rfl
theorem sc_eq(s:List UInt8):scK s= !inNm s:=by
 cases h:scK s with
 |false=>rw[sc_no h];rfl
 |true=>
  cases k:inNm s with
  |false=>rfl
  |true=>
   unfold scK at h;rw[nm_sc k]at h
   simp at h
theorem rs_eq(s:List UInt8):rsK s=ig s:=by unfold rsK ig pt.mtk;rw[a0M];simp only[a0E,beq_iff_eq,decide_eq_true_eq,a0n,a0g,or_false,or_assoc]
theorem vn_eq(s:List UInt8):vnK s=vnm s:=by unfold vnK vnm;rw[sc_eq,rs_eq,a1y]
theorem wx_eq(e:ExpT):wxE e=wfN e.j e.n e.pp.b e.op (Q e.I:Int):=by
 unfold wxE wfN;rw[vn_eq];by_cases E:e.j=1
 ·rw[if_pos E,if_pos E];ac_rfl
 rw[if_neg E,if_neg E];by_cases Z:e.j=5
 ·rw[if_pos Z,if_neg M,if_neg M,if_neg M,if_pos Z];ac_rfl
 rw[if_neg Z];by_cases U:e.j=4
 ·rw[if_pos U,if_neg M,if_neg M,if_pos U];congr 1;unfold opK5 binO;by_cases o1:e.op=20
  ·rw[o1];simp
  by_cases o2:e.op=21
  ·rw[o2];simp
  rw[if_neg (by simp[o1,o2])];have a1:(e.op==20)=false:=by simpa using o1
  have a2:(e.op==21)=false:=by simpa using o2
  rw[a1,a2];simp[Bool.and_comm]
 rw[if_neg U];by_cases O:e.j=2
 ·rw[if_pos O,if_pos O];ac_rfl
 rw[if_neg O,if_neg O];by_cases T:e.j=3
 ·rw[if_pos T,if_pos T];ac_rfl
 rw[if_neg T,if_neg T,if_neg U,if_neg Z]
theorem wks_eq{m:ExpT->Int->Bool}{q:ExpT->Bool}{d:Int}: ∀{l:List ExpT},(∀x∈l,wkE m x d=q x)->wkEs m l d=l.all q
 | [],_=>by rw[wkEs];rfl
 |e::l,h=>by rw[wkEs,h e (a0m ..),wks_eq (l:=l) λx E=>h x (a0c _ E)];rfl
theorem wfs_all: ∀l:List ExpT,eQ l=l.all wfE
 | []=>by rw[eQ];rfl
 |e::l=>by rw[eQ,wfs_all l];rfl
theorem wk_wf(e:ExpT): ∀d,wkE (λx _=>wxE x) e d=wfE e:=exI (P:=λe=> ∀d,wkE (λx _=>wxE x) e d=wfE e) (λe h d=>by
 rw[wk_e,wx_eq,wf_e,wks_eq (q:=wfE) (λx E=>h x E _),wfs_all,Bool.and_comm]) _ e (a07 _)
theorem wfX_eq(e:ExpT):wfX e=wfE e:=wk_wf e 0
theorem wfX_f:wfX=wfE:=funext wfX_eq
theorem dps_all{n:Nat}: ∀l:List ExpT,(decide (n+j5 l<=20))=(decide (n<=20)&&l.all λx=>decide (n+(1+dpE x)<=20))
 | []=>by rw[j5];simp
 |e::l=>by have:=dps_all (n:=n) l;rw[j5,a0l];generalize l.all (λx=>decide (n+(1+dpE x)<=20))=b at this⊢;rw[a0M]at this⊢;cases b<;>simp only[a04,decide_eq_true_eq,a0D,a1a,a0j,iff_false,and_false]at this⊢ <;>omega
theorem wk_dp(e:ExpT): ∀n:Nat,wkE (λ_ d=>decide (d<=20)) e (n:Int)=decide (n+dpE e<=20):=exI (P:=λe=> ∀n:Nat,wkE (λ_ d=>decide (d<=20)) e (n:Int)=decide (n+dpE e<=20)) (λe h n=>by
 rw[wk_e,dp_e,dps_all,wks_eq (q:=λx=>decide (n+(1+dpE x)<=20)) (λx E=>by
  have:=h x E (n+1);rw[show((n:Int)+1)=((n+1:Nat):Int) by omega,this];congr 1;rw[a0C])]
 congr 1;rw[decide_eq_decide];omega) _ e (a07 _)
mutual
def alS(q:StmT->Bool):StmT->Bool
 |⟨k,nm,to,n,a,v,ar,t,e⟩=>q ⟨k,nm,to,n,a,v,ar,t,e⟩&&alL q t&&alL q e
def alL(q:StmT->Bool):List StmT->Bool
 | []=>true
 |s::l=>alS q s&&alL q l
end
theorem al_s{q:StmT->Bool}(s:StmT):alS q s=(q s&&alL q s.G4&&alL q s.G7):=by cases s;rw[alS]
theorem fo{q:StmT->Bool}: ∀l:List StmT,alL q l=l.all (alS q)
 | []=>by rw[alL];rfl
 |s::l=>by rw[alL,fo l];rfl
theorem jd{α:Type}{q r:α->Bool}: ∀{l:List α},(∀x∈l,q x=r x)->l.all q=l.all r
 | [],_=>rfl
 |x::l,h=>by rw[a0l,a0l,h x (a0m ..),jd (l:=l) λy E=>h y (a0c _ E)]
theorem al_cg{q:StmT->Bool}{Q1:StmT->Bool}(T: ∀s,Q1 s=(q s&&s.G4.all Q1&&s.G7.all Q1))(s:StmT):Q1 s=alS q s:=stI (P:=λs=>Q1 s=alS q s) (λs E O=>by
 rw[T,al_s,fo,fo,jd E,jd O]) _ s (a07 _)
theorem al_and{q r:StmT->Bool}(s:StmT):(alS q s&&alS r s)=alS (λs=>q s&&r s) s:=al_cg (Q1:=λs=>alS q s&&alS r s) (λs=>by
 have key: ∀l:List StmT,(l.all λs=>alS q s&&alS r s)=(l.all (alS q)&&l.all (alS r)):=by
  intro l;induction l with
  |nil=>rfl
  |cons x l ih=>rw[a0l,a0l,a0l,ih];ac_rfl
 rw[key,key,al_s,al_s,fo,fo,fo,fo];ac_rfl) s
theorem alL_and{q r:StmT->Bool}: ∀l:List StmT,(alL q l&&alL r l)=alL (λs=>q s&&r s) l
 | []=>by rw[alL,alL,alL];rfl
 |s::l=>by rw[alL,alL,alL,←alL_and l,←al_and];ac_rfl
section
variable {σ:Type} {g:σ->StmT->σ}
mutual
def fdS(g:σ->StmT->σ):StmT->σ->σ
 |⟨k,nm,to,n,a,v,ar,t,e⟩,w=>fdL g e (fdL g t (g w ⟨k,nm,to,n,a,v,ar,t,e⟩))
def fdL(g:σ->StmT->σ):List StmT->σ->σ
 | [],w=>w
 |s::l,w=>fdL g l (fdS g s w)
end
theorem fd_s(s:StmT)(w:σ):fdS g s w=fdL g s.G7 (fdL g s.G4 (g w s)):=by cases s;rw[fdS]
variable {m:σ->StmT->Int->σ×Bool} {q:StmT->Bool}
theorem oq: ∀{l:List StmT},(∀s∈l,∀w d,(wsS m s w d).2=alS q s/\(alS q s=true->(wsS m s w d).1=fdS g s w))->∀w d,(wsL m l w d).2=alL q l/\(alL q l=true->(wsL m l w d).1=fdL g l w)
 | [],_,w,d=>by rw[wsL,alL,fdL];exact⟨V,λ_=>rfl⟩
 |s::l,h,w,d=>by
  have⟨E,O⟩:=h s (a0m ..) w d;have ih:=oq (l:=l) λx T=>h x (a0c _ T)
  rw[wsL,alL,fdL];rcases e:wsS m s w d with⟨a,b⟩;rw[e]at E O;cases b with
  |false=>rw[←E];exact⟨V,λk=>by cases k⟩
  |true=>
   have E:true=alS q s:=E
   rw[←E,a1b]
   have:=O E.symm
   rw[←show a=fdS g s w from this]
   exact ih a d
theorem wss_gen(T: ∀w s d,m w s d=(g w s,q s))(s:StmT): ∀w d,(wsS m s w d).2=alS q s/\(alS q s=true->(wsS m s w d).1=fdS g s w):=stI (P:=λs=> ∀w d,(wsS m s w d).2=alS q s/\(alS q s=true->(wsS m s w d).1=fdS g s w)) (λs E O w d=>by
 rw[ws_s,T,al_s,fd_s];cases U:q s with
 |false=>exact⟨V,λk=>by cases k⟩
 |true=>
  rw[a1b]
  have⟨k1,k2⟩:=oq E (g w s) (d+1)
  dsimp only
  rcases e:wsL m s.G4 (g w s) (d+1) with⟨a,b⟩
  rw[e]at k1 k2
  cases b with
  |false=>rw[←k1];exact⟨V,λk=>by cases k⟩
  |true=>
   have k1:true=alL q s.G4:=k1
   rw[←k1,a1b]
   rw[←show a=fdL g s.G4 (g w s) from k2 k1.symm]
   exact oq O a (d+1)) _ s (a07 _)
theorem ws_gen(E: ∀w s d,m w s d=(g w s,q s))(l:List StmT)(w:σ)(d:Int):(wsL m l w d).2=alL q l/\(alL q l=true->(wsL m l w d).1=fdL g l w):=oq (λs _=>wss_gen E s) w d
end
theorem wp_al(q:StmT->Bool)(l:List StmT)(d:Int):wpL (λs _=>q s) l d=alL q l:=(ws_gen (g:=λw _=>w) (q:=q) (λ_ _ _=>rfl) l () d).1
theorem len_z{α:Type}(l:List α):decide ((0:Int)<(Q l:Int))= !((Q l:Int)==0):=by
 cases l with
 |nil=>rfl
 |cons x l=>simp;omega
theorem nm_t(s:List UInt8):nmF s true=vnm s:=vn_eq s
theorem nm_f(s:List UInt8):nmF s false=(s==[]):=by cases s<;>rfl
theorem ex_t(e:ExpT):exF e true=wfE e:=wfX_eq e
theorem ex_f(e:ExpT):exF e false=isZ e:=by cases e;rfl
theorem je{s:StmT}(w:FdT)(O:fdK s.j=w)(E:fdO s.j=true):wsK s=(nmF s.pp.b w.pp&&nmF s.K.b w.K&&exF s.G2 w.G2&&exF s.val w.val&&(!(decide (s.n<0)||decide ((1000000:Int)<s.n))&&(w.n||s.n==0))&&(w.y||(Q s.y:Int)==0)&&(w.G4||(Q s.G4:Int)==0)&&(w.G7||(Q s.G7:Int)==0)&&eQ s.y):=by unfold wsK ws1 ws2;rw[O,E,len_z,len_z,len_z,wfX_f,wfs_all];have e:(s.n !=0)= !(s.n==0):=rfl;rw[e];simp only[a23,Bool.not_and,a1y,a1x,a1c];ac_rfl
theorem n_z(n:Int):(!(decide (n<0)||decide ((1000000:Int)<n))&&(n==0))=(n==0):=by rw[a0M];simp;omega
theorem n_r(n:Int):(!(decide (n<0)||decide ((1000000:Int)<n)))=(decide (0<=n)&&decide (n<=1000000)):=by rw[a0M];simp
theorem ws_wfa(s:StmT):wsK s=wfA s:=by
 unfold wfA;by_cases E:s.j=1
 ·rw[je _ V (by rw[E];rfl),wfK,if_pos E,E];show(nmF _ true&&nmF _ false&&exF _ false&&exF _ true&&(_&&(false||_))&&(false||_)&&(false||_)&&(false||_)&&_)=_;unfold flS;simp only[nm_t,nm_f,ex_t,ex_f,a1c,n_z];ac_rfl
 by_cases O:s.j=2
 ·rw[je _ V (by rw[O];rfl),wfK,if_neg E,if_pos O,O];show(nmF _ true&&nmF _ false&&exF _ true&&exF _ true&&(_&&(false||_))&&(false||_)&&(false||_)&&(false||_)&&_)=_;unfold flS;simp only[nm_t,nm_f,ex_t,ex_f,a1c,n_z];ac_rfl
 by_cases T:s.j=3
 ·rw[je _ V (by rw[T];rfl),wfK,if_neg E,if_neg O,if_pos T,T];show(nmF _ false&&nmF _ false&&exF _ false&&exF _ true&&(_&&(false||_))&&(false||_)&&(true||_)&&(true||_)&&_)=_;unfold onV;simp only[nm_t,nm_f,ex_t,ex_f,a1c,a1T,a0D,n_z];ac_rfl
 by_cases U:s.j=4
 ·rw[je _ V (by rw[U];rfl),wfK,if_neg E,if_neg O,if_neg T,if_pos U,U];show(nmF _ false&&nmF _ false&&exF _ false&&exF _ true&&(_&&(false||_))&&(false||_)&&(true||_)&&(false||_)&&_)=_;unfold onV;simp only[nm_t,nm_f,ex_t,ex_f,a1c,a1T,a0D,n_z];ac_rfl
 by_cases Z:s.j=5
 ·rw[je _ V (by rw[Z];rfl),wfK,if_neg E,if_neg O,if_neg T,if_neg U,if_pos Z,Z];show(nmF _ false&&nmF _ false&&exF _ false&&exF _ true&&(_&&(false||_))&&(false||_)&&(false||_)&&(false||_)&&_)=_;unfold onV flS;simp only[nm_t,nm_f,ex_t,ex_f,a1c,a1T,a0D,n_z];ac_rfl
 by_cases h6:s.j=6
 ·rw[je _ V (by rw[h6];rfl),wfK,if_neg E,if_neg O,if_neg T,if_neg U,if_neg Z,if_pos h6,h6];show(nmF _ true&&nmF _ true&&exF _ false&&exF _ false&&(_&&(false||_))&&(true||_)&&(false||_)&&(false||_)&&_)=_;unfold flS;simp only[nm_t,nm_f,ex_t,ex_f,a1c,a1T,a0D,n_z];ac_rfl
 by_cases h7:s.j=7
 ·rw[je _ V (by rw[h7];rfl),wfK,if_neg E,if_neg O,if_neg T,if_neg U,if_neg Z,if_neg h6,if_pos h7,h7];show(nmF _ false&&nmF _ false&&exF _ false&&exF _ false&&(_&&(true||_))&&(false||_)&&(false||_)&&(false||_)&&_)=_;unfold flS;simp only[nm_t,nm_f,ex_t,ex_f,a1c,a1T,a0D,n_r];ac_rfl
 have ho:fdO s.j=false:=by unfold fdO;simp;omega
 unfold wsK ws1;rw[ho,wfK,if_neg E,if_neg O,if_neg T,if_neg U,if_neg Z,if_neg h6,if_neg h7];simp
theorem om: ∀l:List StmT,dB l=l.all wfS
 | []=>by rw[dB];rfl
 |s::l=>by rw[dB,om l];rfl
theorem wp_wf(l:List StmT)(d:Int):wpL (λs _=>wsK s) l d=dB l:=by rw[wp_al,om,fo];exact jd λs _=>(al_cg (q:=wsK) (Q1:=wfS) (λs=>by rw[wf_s,om,om,ws_wfa]) s).symm
theorem wfF_eq(f:FunT):wfF5 f=wfF f:=by
 unfold wfF5 wfF;have e:(λs:Str=>vnK s.b)=λs=>vnm s.b:=funext λs=>vn_eq s.b
 rw[wp_wf,wfX_eq,vn_eq,a1H,a1H,e];simp only[a23,a1y,a0l,a1o,a0D];ac_rfl
theorem wfP_eq(p:PrgT):wfPr p=wfP p:=by
 unfold wfPr wfP;have e:(λa:ArrT=>vnK a.pp.b)=λa=>vnm a.pp.b:=funext λa=>vn_eq a.pp.b
 rw[e,show wfF5=wfF from funext wfF_eq]
theorem lm_s{n k:Nat}(O:n<=200)(E:k<=16)(s:StmT)(d:Nat):lmS ((n:Int),(k:Int)) s (d:Int)=((((n+1:Nat):Int),((k+(if s.j=4 then 1 else 0):Nat):Int)),decide (d<=20/\n+1<=200/\k+(if s.j=4 then 1 else 0)<=16)):=by
 have e:lmN ((n:Int),(k:Int)) s=(((n+1:Nat):Int),((k+(if s.j=4 then 1 else 0):Nat):Int)):=by unfold lmN;rw[lA (n:=(n:Int)+1) M,lA (n:=(k:Int)+1) M];split<;>rfl
 unfold lmS;rw[e];congr 1;rw[a0M];simp only[a04,decide_eq_true_eq];generalize (if s.j=4 then 1 else 0)=z;omega
def LmA(s:StmT):Prop:= ∀(n k d:Nat),n<=200->k<=16->(wsS lmS s ((n:Int),(k:Int)) (d:Int)).2=decide (n+nS s<=200/\k+wS s<=16/\dS s d<=20)/\((wsS lmS s ((n:Int),(k:Int)) (d:Int)).2=true->(wsS lmS s ((n:Int),(k:Int)) (d:Int)).1=(((n+nS s:Nat):Int),((k+wS s:Nat):Int)))
theorem lm_l: ∀{l:List StmT},(∀s∈l,LmA s)->∀(n k d:Nat),n<=200->k<=16->(wsL lmS l ((n:Int),(k:Int)) (d:Int)).2=decide (n+nSs l<=200/\k+wSs l<=16/\dSs l d<=20)/\((wsL lmS l ((n:Int),(k:Int)) (d:Int)).2=true->(wsL lmS l ((n:Int),(k:Int)) (d:Int)).1=(((n+nSs l:Nat):Int),((k+wSs l:Nat):Int)))
 | [],_,n,k,d,hn,hk=>by rw[wsL,nSs,wSs,dSs];exact⟨(decide_eq_true ⟨M,M,M⟩).symm,λ_=>rfl⟩
 |s::l,h,n,k,d,hn,hk=>by
  have⟨E,O⟩:=h s (a0m ..) n k d hn hk;rw[wsL,nSs,wSs,dSs];rcases e:wsS lmS s ((n:Int),(k:Int)) (d:Int) with⟨a,b⟩;rw[e]at E O;cases b with
  |false=>
   refine⟨?_,λq=>by cases q⟩
   have E:false=decide (n+nS s<=200/\k+wS s<=16/\dS s d<=20):=E
   have:=of_decide_eq_false E.symm
   exact(decide_eq_false (λq=>this ⟨M,M,M⟩)).symm
  |true=>
   have E:true=decide (n+nS s<=200/\k+wS s<=16/\dS s d<=20):=E
   have q:=of_decide_eq_true E.symm
   have O:a=(((n+nS s:Nat):Int),((k+wS s:Nat):Int)):=O V
   subst O
   have⟨T,U⟩:=lm_l (l:=l) (λx Z=>h x (a0c _ Z)) (n+nS s) (k+wS s) d q.1 q.2.1
   dsimp only
   refine⟨T.trans ?_,λz=>(U z).trans ?_⟩
   ·rw[decide_eq_decide];omega
   rw[a0C,a0C]
theorem lm_a(s:StmT):LmA s:=stI (P:=LmA) (λs T U n k d hn hk=>by
 have hd:dS s d=max d (max (dSs s.G4 (d+1)) (dSs s.G7 (d+1))):=by cases s;rw[dS]
 rw[ws_s,lm_s hn hk,n_s,w_s,hd];generalize hz:(if s.j=4 then 1 else 0)=z;by_cases c:d<=20/\n+1<=200/\k+z<=16
 ·rw[decide_eq_true c];dsimp only;have⟨E,O⟩:=lm_l T (n+1) (k+z) (d+1) c.2.1 c.2.2;rw[show((d:Int)+1)=((d+1:Nat):Int) by omega];rcases e:wsL lmS s.G4 (((n+1:Nat):Int),((k+z:Nat):Int)) ((d+1:Nat):Int) with⟨a,b⟩;rw[e]at E O;cases b with
  |false=>
   refine⟨?_,λq=>by cases q⟩
   have E:false=decide (n+1+nSs s.G4<=200/\k+z+wSs s.G4<=16/\dSs s.G4 (d+1)<=20):=E
   have:=of_decide_eq_false E.symm
   exact(decide_eq_false (λq=>this ⟨M,M,M⟩)).symm
  |true=>
   have E:true=decide (n+1+nSs s.G4<=200/\k+z+wSs s.G4<=16/\dSs s.G4 (d+1)<=20):=E
   have q:=of_decide_eq_true E.symm
   have O:a=(((n+1+nSs s.G4:Nat):Int),((k+z+wSs s.G4:Nat):Int)):=O V
   subst O
   have⟨Z,j2⟩:=lm_l U (n+1+nSs s.G4) (k+z+wSs s.G4) (d+1) q.1 q.2.1
   dsimp only
   refine⟨Z.trans ?_,λz=>(j2 z).trans ?_⟩
   ·rw[decide_eq_decide];omega
   congr 2<;>omega
 rw[decide_eq_false c];refine⟨(decide_eq_false (λq=>c ⟨M,M,M⟩)).symm,λq=>by cases q⟩) _ s (a07 _)
theorem td_al(s:StmT):(!tdS s)=alS (weS λ_ d=>decide (d<=20)) s:=al_cg (Q1:=λs=> !tdS s) (λs=>by
 have key: ∀l:List StmT,dF l= !l.all λs=> !tdS s:=by
  intro l;induction l with
  |nil=>rw[dF];rfl
  |cons x l ih=>rw[dF,ih,a0l,Bool.not_and,a1y]
 have E: ∀e:ExpT,wkE (λ_ d=>decide (d<=20)) e 0= !decide (20<dpE e):=λe=>by have:=wk_dp e 0;rw[show((0:Nat):Int)=0 from rfl]at this;rw[this,a0M];simp
 rw[td_s,key,key];unfold weS we1;rw[E,E,jd (l:=s.y) (q:=λx=>wkE (λ_ d=>decide (d<=20)) x 0) (r:=λx=> !decide (20<dpE x)) λe _=>E e];have k1:(s.y.any λx=>decide (20<dpE x))= !s.y.all λx=> !decide (20<dpE x):=by rw[List.not_all_eq_any_not];congr 1;funext x;rw[a1y]
 rw[k1];simp only[a23,a1y];ac_rfl) s
theorem tds_al(l:List StmT):alL (weS λ_ d=>decide (d<=20)) l= !dF l:=by
 rw[fo];induction l with
 |nil=>rw[dF];rfl
 |cons x l ih=>rw[dF,a0l,ih,←td_al,a23]
theorem lmF_eq(g:FunT):lmF g= !dgB g:=by unfold lmF wxF dgB;have E:=(lm_l (l:=g.G6) (λs _=>lm_a s) 0 0 0 M M).1;rw[show(((0:Nat):Int),((0:Nat):Int))=((0:Int),(0:Int)) from V,show((0:Nat):Int)=0 from rfl]at E;rw[E,wp_al,tds_al];have O:=wk_dp g.val 0;rw[show((0:Nat):Int)=0 from rfl]at O;rw[O,a0M];cases dF g.G6<;>simp<;>omega
theorem dg_any: ∀l:List FunT,dpG l= !l.all lmF
 | []=>by rw[dpG];rfl
 |f::l=>by rw[dpG,dg_any l,a0l,Bool.not_and,lmF_eq,a1y];rfl
theorem lm_eq(p:PrgT):lmP p= !exL p:=by
 unfold lmP lm0 exL;rw[dg_any];have e:(p.d.any λa=>decide (a.len<1)||decide (16<a.len))= !p.d.all lmA:=by rw[List.not_all_eq_any_not];congr 1;funext a;unfold lmA;rw[a1y]
 rw[e];simp only[a23,a1y];congr 2;rw[a0M];simp;omega
theorem has_in(l:List Str)(s:List UInt8):eI l s=decide (s∈l.map (·.b)):=by unfold eI;rw[a0M];simp only[List.any_eq_true,beq_iff_eq,decide_eq_true_eq,a0B]
theorem du_eq: ∀(l seen:List Str),iy seen l=cx (seen.map (·.b)) l
 | [],_=>by rw[iy,cx]
 |s::l,seen=>by
  rw[iy,cx,has_in,du_eq l,a0N];by_cases h:s.b∈seen.map (·.b)
  ·rw[decide_eq_true h,if_pos h];rfl
  rw[decide_eq_false h,if_neg h];rfl
theorem du_app: ∀(l m:List Str) (w:List (List UInt8)),cx w (l++m)=(cx w l||cx (w++l.map (·.b)) m)
 | [],m,w=>by rw[a0o,cx,List.map_nil,a0k];rfl
 |k::l,m,w=>by
  rw[a0t,cx,cx];by_cases h:k.b∈w
  ·rw[if_pos h,if_pos h];rfl
  rw[if_neg h,if_neg h,du_app l m,a0b];rfl
theorem du_F(aa:List Str): ∀(l:List FunT) (fs:List Str),dupF aa fs l=(iy fs (l.map FunT.pp)||l.any λf=>iy aa (f.A++f.B))
 | [],fs=>by rw[dupF,List.map_nil,iy];rfl
 |f::l,fs=>by rw[dupF,a1f,iy,du_F aa l,a22];ac_rfl
theorem dup_eq(p:PrgT):dupPr p=dupP p:=by
 unfold dupPr dup0 dupP;rw[du_F,du_eq];have E:([p.d.map ArrT.pp]:List (List Str)).flatten=p.d.map (·.pp):=by simp
 have O:([p.U.map FunT.pp]:List (List Str)).flatten=p.U.map FunT.pp:=by simp
 rw[E,O,du_eq];cases h:cx [] (p.d.map (·.pp)) with
 |true=>rw[show([]:List Str).map (·.b)=[] from V,h];rfl
 |false=>
  have T:dupF5 p=λf=>iy (p.d.map (·.pp)) (f.A++f.B):=funext λf=>by unfold dupF5;rw[show([p.d.map ArrT.pp,f.A,f.B]:List (List Str)).flatten=p.d.map (·.pp)++(f.A++f.B) by simp,du_app,h,du_eq];rfl
  rw[T,show([]:List Str).map (·.b)=[] from V,h];rfl
theorem tb_in(E:List (List Str))(s:List UInt8):decide (s∈tbS E)=eI E.flatten s:=by rw[has_in];rfl
theorem re_df(lv la:List (List UInt8))(vs aa:List Str)(E: ∀s,decide (s∈lv)=eI vs s)(O: ∀s,decide (s∈la)=eI aa s)(e:ExpT): ∀d,wkE (λx _=>reE lv la x) e d=dfE vs aa e:=exI (P:=λe=> ∀d,wkE (λx _=>reE lv la x) e d=dfE vs aa e) (λe h d=>by
 have k: ∀l:List ExpT,fC vs aa l=l.all (dfE vs aa):=by
  intro l;induction l with
  |nil=>rw[fC];rfl
  |cons x l ih=>rw[fC,ih];rfl
 have k2:dfE vs aa e=(fC vs aa e.I&&((e.j !=2)||eI vs e.pp.b)&&((e.j !=3)||eI aa e.pp.b)):=by cases e;rw[dfE]
 rw[wk_e,k2,k,wks_eq (q:=dfE vs aa) λx T=>h x T _];unfold reE;rw[E,O];ac_rfl) _ e (a07 _)
theorem not_in: ∀{l:List Str} {w:List (List UInt8)},cx w l=false->∀x∈l,¬x.b∈w
 |k::l,w,h,x,hx=>by
  rw[cx]at h;split at h
  ·cases h
  next c=>
  rcases a0n.1 hx with rfl|hx
  ·exact c
  exact λq=>not_in h x hx (a20 _ q)
theorem las_no{s:List UInt8}: ∀{l:List FunT} (r:Option Int),(∀f∈l,f.pp.b≠s)->(l.map flE).foldl (λr e=>if s=e.1 then some e.2 else r) r=r
 | [],_,_=>rfl
 |f::l,r,h=>by rw[a1f,a1M];show(l.map flE).foldl _ (if s=f.pp.b then some _ else r)=r;rw[if_neg λq=>h f (a0m ..) q.symm];exact las_no r λg E=>h g (a0c _ E)
theorem ff_ge(s:List UInt8): ∀(l:List FunT) (i:Nat),ffN s l i= -1\/(i:Int)<=ffN s l i
 | [],i=> .inl V
 |f::l,i=>by
  rw[ffN];split
  ·exact .inr (Int.le_refl _)
  rcases ff_ge s l (i+1) with h|h
  ·exact .inl h
  exact .inr M
theorem las_ff{s:List UInt8}: ∀{l:List FunT} {w:List (List UInt8)} (i:Nat) (r:Option Int),cx w (l.map FunT.pp)=false->(l.map flE).foldl (λr e=>if s=e.1 then some e.2 else r) r=if 0<=ffN s l i then some (Q (Y l (ffN s l i-i).toNat default).A:Int) else r
 | [],_,_,_,_=>rfl
 |f::l,w,i,r,h=>by
  rw[a1f,cx]at h;rw[a1f,a1M,ffN];show(l.map flE).foldl _ (if s=f.pp.b then some (Q f.A:Int) else r)=_;split at h
  ·cases h
  by_cases c:f.pp.b=s
  ·rw[if_pos c.symm,if_pos c,las_no _ λg E q=>not_in h g.pp (List.mem_map_of_mem E) (by rw[q,c];simp),if_pos M,Int.sub_self];rfl
  rw[if_neg (λq=>c q.symm),if_neg c,las_ff (i+1) r h];rcases ff_ge s l (i+1) with k|k
  ·rw[k];rfl
  rw[if_pos M,if_pos M];obtain⟨m,O⟩: ∃m:Nat,ffN s l (i+1)=((i+1+m:Nat):Int):=⟨(ffN s l (i+1)-(i+1)).toNat,M⟩
  rw[O,show(((i+1+m:Nat):Int)-((i+1:Nat):Int)).toNat=m by omega,show(((i+1+m:Nat):Int)-(i:Int)).toNat=m+1 by omega];rfl
theorem las_eq{p:PrgT}(h:cx [] (p.U.map FunT.pp)=false)(s:List UInt8):nq (p.U.map flE) s=if 0<=ffP p s then some (Q (Y p.U (ffP p s).toNat default).A:Int) else none:=by have:=las_ff (s:=s) 0 none h;unfold nq ffP;rw[this];rw[show((0:Nat):Int)=0 from V,Int.sub_zero]
section
variable {p:PrgT} {lv la:List (List UInt8)} {vs aa:List Str}
def reQ(lv la:List (List UInt8))(fl:List (List UInt8×Int))(s:StmT):Bool:=if s.j=1 then decide (s.pp.b∈lv) else if s.j=2 then decide (s.pp.b∈la) else if s.j=6 then(nq fl s.K.b).isSome&&decide (s.pp.b∈lv) else true
def reG(fl:List (List UInt8×Int))(w:Int)(s:StmT):Int:=if(s.j==6&&reA fl s)=true then 5 else w
theorem reS_eq(fl:List (List UInt8×Int))(w:Int)(s:StmT)(d:Int):reS lv la fl w s d=(reG fl w s,reQ lv la fl s):=by
 unfold reS reG reQ;by_cases O:s.j=1
 ·rw[if_pos O,if_pos O,if_neg (by rw[O];simp)]
 rw[if_neg O,if_neg O];by_cases T:s.j=2
 ·rw[if_pos T,if_pos T,if_neg (by rw[T];simp)]
 rw[if_neg T,if_neg T];by_cases E:s.j=6
 ·rw[if_pos E,if_pos E,E];rfl
 rw[if_neg E,if_neg E,if_neg (by simp[E])]
theorem reQ_eq(U:cx [] (p.U.map FunT.pp)=false)(O: ∀s,decide (s∈lv)=eI vs s)(T: ∀s,decide (s∈la)=eI aa s)(s:StmT):reQ lv la (p.U.map flE) s=swK vs aa p s:=by
 unfold reQ swK;rw[O,T,las_eq U];have e: ∀(c:Prop) [Decidable c] (x:Int),(if c then some x else none).isSome=decide c:=by intro c _ x;by_cases h:c<;>simp[h]
 rw[e];by_cases k1:s.j=1
 ·rw[if_pos k1,if_pos k1]
 rw[if_neg k1,if_neg k1];by_cases k2:s.j=2
 ·rw[if_pos k2,if_neg M,if_pos k2]
 rw[if_neg k2];by_cases E:s.j=6
 ·rw[if_pos E,if_pos E,Bool.and_comm]
 rw[if_neg E,if_neg E,if_neg k2]
theorem dfs_all: ∀l:List ExpT,fC vs aa l=l.all (dfE vs aa)
 | []=>by rw[fC];rfl
 |x::l=>by rw[fC,dfs_all l];rfl
theorem df_al(T:cx [] (p.U.map FunT.pp)=false)(E: ∀s,decide (s∈lv)=eI vs s)(O: ∀s,decide (s∈la)=eI aa s)(l:List StmT):(alL (weS λx _=>reE lv la x) l&&alL (reQ lv la (p.U.map flE)) l)=i5 vs aa p l:=by
 have key: ∀l:List StmT,i5 vs aa p l=l.all (dfS vs aa p):=by
  intro l;induction l with
  |nil=>rw[i5];rfl
  |cons x l ih=>rw[i5,ih];rfl
 rw[alL_and,key,fo];refine jd λs _=>(al_cg (Q1:=dfS vs aa p) (λs=>?_) s).symm
 have:dfS vs aa p s=(dfK vs aa p s&&i5 vs aa p s.G4&&i5 vs aa p s.G7):=by cases s;rw[dfS]
 rw[this,key,key,reQ_eq T E O];unfold weS we1 dfK;rw[re_df lv la vs aa E O,re_df lv la vs aa E O,jd (l:=s.y) (q:=λx=>wkE (λx _=>reE lv la x) x 0) (r:=dfE vs aa) λe _=>re_df lv la vs aa E O e 0,dfs_all];simp only[a23,a1y];ac_rfl
theorem fd_5{b:StmT->Bool}{g:Int->StmT->Int}(T: ∀w s,g w s=if b s=true then 5 else w)(s:StmT): ∀w,fdS g s w=if alS (λs=> !b s) s=true then w else 5:=stI (P:=λs=> ∀w,fdS g s w=if alS (λs=> !b s) s=true then w else 5) (λs E O w=>by
 have key: ∀l:List StmT,(∀s∈l,∀w,fdS g s w=if alS (λs=> !b s) s=true then w else 5)->∀w,fdL g l w=if alL (λs=> !b s) l=true then w else 5:=by
  intro l;induction l with
  |nil=>intro _ w;rw[fdL,alL];rfl
  |cons x l ih=>
   intro h w
   rw[fdL,alL,h x (a0m ..),ih λy U=>h y (a0c _ U)]
   cases alS (λs=> !b s) x<;>cases alL (λs=> !b s) l<;>rfl
 rw[fd_s,al_s,key _ E,key _ O,T];cases b s<;>cases alL (λs=> !b s) s.G4<;>cases alL (λs=> !b s) s.G7<;>rfl) _ s (a07 _)
theorem fd_5l{b:StmT->Bool}{g:Int->StmT->Int}(E: ∀w s,g w s=if b s=true then 5 else w): ∀(l:List StmT) (w:Int),fdL g l w=if alL (λs=> !b s) l=true then w else 5
 | [],w=>by rw[fdL,alL];rfl
 |x::l,w=>by rw[fdL,alL,fd_5 E,fd_5l E l];cases alS (λs=> !b s) x<;>cases alL (λs=> !b s) l<;>rfl
theorem ar_al(U:cx [] (p.U.map FunT.pp)=false): ∀{l:List StmT},alL (λs=> !(s.j==6)||decide (0<=ffP p s.K.b)) l=true->alL (λs=> !((s.j==6)&&reA (p.U.map flE) s)) l=nv p l:=by
 have k1: ∀s:StmT,(!(s.j==6)||decide (0<=ffP p s.K.b))=true->(!((s.j==6)&&reA (p.U.map flE) s))=arK p s:=by
  intro s h;unfold arK reA;cases Z:(s.j==6) with
  |false=>rfl
  |true=>
   rw[Z]at h
   have h:0<=ffP p s.K.b:=by simpa using h
   rw[las_eq U,if_pos h]
   congr 1
   show(((_:Int) !=_))=_
   exact bne_comm
 have key: ∀l:List StmT,nv p l=l.all (arS p):=by
  intro l;induction l with
  |nil=>rw[nv];rfl
  |cons x l ih=>rw[nv,ih];rfl
 have k2: ∀s,alS (λs=> !(s.j==6)||decide (0<=ffP p s.K.b)) s=true->alS (λs=> !((s.j==6)&&reA (p.U.map flE) s)) s=arS p s:=λs=>stI (P:=λs=>alS (λs=> !(s.j==6)||decide (0<=ffP p s.K.b)) s=true->alS (λs=> !((s.j==6)&&reA (p.U.map flE) s)) s=arS p s) (λs E O h=>by
  rw[al_s,a04,a04,fo,fo,a0r,a0r]at h;have:arS p s=(arK p s&&nv p s.G4&&nv p s.G7):=by cases s;rw[arS]
  rw[al_s,this,k1 s h.1.1,fo,fo,key,key,jd (l:=s.G4) λx T=>E x T (h.1.2 x T),jd (l:=s.G7) λx T=>O x T (h.2 x T)]) _ s (a07 _)
 intro l h;rw[fo,a0r]at h;rw[fo,key,jd λx T=>k2 x (h x T)]
theorem al_imp{q r:StmT->Bool}(h: ∀s,q s=true->r s=true)(l:List StmT)(k:alL q l=true):alL r l=true:=by
 have e:(λs=>q s&&r s)=q:=funext λs=>by cases e:q s with|false=>rfl|true=>rw[h s e];rfl
 have:=alL_and (q:=q) (r:=r) l;rw[e,k,a1b]at this;exact this
end
theorem res_0{p:PrgT}(hf:cx [] (p.U.map FunT.pp)=false): ∀(l:List FunT) (w:Int),(w=0\/w=5)->((reL5 (tbS ([p.d.map ArrT.pp]:List (List Str))) (p.U.map flE) l w=0)↔(w=0/\l.all (dfF p)=true/\l.all (arF p)=true))
 | [],w,_=>by rw[reL5];simp
 |g::l,w,hw=>by
  have E: ∀s,decide (s∈lvF g)=eI (g.A++g.B) s:=λs=>by rw[tb_in];simp
  have O: ∀s,decide (s∈tbS ([p.d.map ArrT.pp]:List (List Str)))=eI (arN p) s:=λs=>by rw[tb_in];unfold arN;simp
  have hg:=ws_gen (m:=reS (lvF g) (tbS ([p.d.map ArrT.pp]:List (List Str))) (p.U.map flE)) (λw s d=>reS_eq (lv:=lvF g) (la:=tbS ([p.d.map ArrT.pp]:List (List Str))) (p.U.map flE) w s d) g.G6 w 0;have hd:=df_al (p:=p) hf E O g.G6;have hx:wxF (λx _=>reE (lvF g) (tbS ([p.d.map ArrT.pp]:List (List Str))) x) g=(dfE (g.A++g.B) (arN p) g.val&&alL (weS λx _=>reE (lvF g) (tbS ([p.d.map ArrT.pp]:List (List Str))) x) g.G6):=by unfold wxF;rw[wp_al,re_df _ _ _ _ E O]
  rw[reL5,a0l,a0l,hg.1,hx];have T:dfF p g=((dfE (g.A++g.B) (arN p) g.val&&alL (weS λx _=>reE (lvF g) (tbS ([p.d.map ArrT.pp]:List (List Str))) x) g.G6)&&alL (reQ (lvF g) (tbS ([p.d.map ArrT.pp]:List (List Str))) (p.U.map flE)) g.G6):=by unfold dfF;rw[←hd];ac_rfl
  rw[T];cases c1:(dfE (g.A++g.B) (arN p) g.val&&alL (weS λx _=>reE (lvF g) (tbS ([p.d.map ArrT.pp]:List (List Str))) x) g.G6) with
  |false=>simp
  |true=>
   cases c2:alL (reQ (lvF g) (tbS ([p.d.map ArrT.pp]:List (List Str))) (p.U.map flE)) g.G6 with
   |false=>simp
   |true=>
    rw[if_pos V,if_pos V,hg.2 c2,fd_5l (g:=reG (p.U.map flE)) (b:=λs=>s.j==6&&reA (p.U.map flE) s) (λw s=>rfl)]
    have U:alL (λs=> !(s.j==6)||decide (0<=ffP p s.K.b)) g.G6=true:=al_imp (λs hs=>by
     cases hk:(s.j==6) with
     |false=>rfl
     |true=>
      have Z:s.j=6:=by simpa using hk
      rw[reQ_eq hf E O]at hs
      unfold swK at hs
      rw[if_neg M,if_pos Z,a04]at hs
      simpa using hs.2) g.G6 c2
    rw[ar_al hf U]
    show _↔w=0/\(true&&true&&l.all (dfF p))=true/\(arF p g&&l.all (arF p))=true
    unfold arF
    cases c3:nv p g.G6 with
    |false=>rw[if_neg e_,res_0 hf l 5 (.inr V)];simp
    |true=>rw[if_pos V,res_0 hf l w hw];simp[arF]
theorem ck_iff(p:PrgT):ckP p=0↔chk p=0:=by
 unfold ckP chk;rw[lm_eq,wfP_eq,dup_eq];cases O:exL p with
 |true=>simp
 |false=>
  cases T:wfP p with
  |false=>simp
  |true=>
   cases E:dupP p with
   |true=>simp
   |false=>
    have U:cx [] (p.U.map FunT.pp)=false:=by have:=dup_eq p;rw[E]at this;unfold dupPr dup0 at this;simp only[a0H]at this;have h:=this.1.2;rwa [show([p.U.map FunT.pp]:List (List Str)).flatten=p.U.map FunT.pp by simp]at h
    simp only[a1K,Bool.true_eq_false,a0j,if_false]
    unfold resP
    rw[res_0 U p.U 0 (.inl V)]
    cases p.U.all (dfF p)<;>cases p.U.all (arF p)<;>simp
theorem ck5_ok{p:PrgT}(h:ckP p=0):wfP p=true/\exL p=false:=ck_ok ((ck_iff p).1 h)
end dp
open dp
namespace dh
variable (ex:FuncId) {F:Fz} {H:Heap} {R:List Fp}
open cc cd ta tb dg dp
open db dc dd de df
def sp(d:Nat):List UInt8:=List.replicate (2 *d) 32
def lnT(d:Nat)(s:List Str):List UInt8:=sp d++(s.flatMap Str.b++[10])
theorem sp_len(d:Nat):Q (sp d)=2 *d:=List.length_replicate
theorem sp_s(d:Nat):sp (d+1)=sp d++[32,32]:=by unfold sp;rw[show 2 *(d+1)=2 *d+2 from V,List.replicate_succ',List.replicate_succ',a0b];rfl
theorem jX(d:Nat)(s:List Str):Q (lnT d s)=2 *d+(Q (s.flatMap Str.b)+1):=by unfold lnT;rw[a00,a00,sp_len];rfl
theorem fm_tk{s:List Str}{j:Nat}(h:j<Q s):(s.take j).flatMap Str.b++(Y s j default).b=(s.take (j+1)).flatMap Str.b:=by rw[a19,a08 h,List.flatMap_append,a09,a08 h];simp
theorem fm_le{s:List Str}{j:Nat}:Q ((s.take j).flatMap Str.b)<=Q (s.flatMap Str.b):=by
 conv=>rhs;rw[←a1n j s,List.flatMap_append,a00]
 omega
theorem dQ{g}(deep:Nat){a7 a9}(ts:List Str)(w:GdT)(hs:HS (.of H ((psG g w).map Prod.fst)) F H [(psG g w)] R)(hts:Sr F a7 ts a9)(hd:deep<4611686018427387904)(hn:Q ts<4611686018427387904)(e8:Q w.b+Q (lnT deep ts)<=2000000000):kKt ex 22 [(pT g 0),(deep:Int),(S_ a7 ts a9)] H λv H'=> ∃(w':GdT),∃F',F.le F'/\HS (.of H ((psG g w).map Prod.fst)) F' H' [(psG g w')] R/\v= .tuple #[]/\(w'.b=w.b++lnT deep ts):=by
 replace hs:HS _ _ _ [(fP g [(S_ w.a w.b w.k)]),w.p] _:=hs.reflat V;have c3:=w.up (F:=F);have zl:=jX deep ts;refine ay Tryz.func22 V V ?_;refine aj 2 V ?_;refine wr 2 [] 1 0 [6] [(6,(.int _ 0))] trivial V V λ_=>?_
 refine ak (λ(mm:Nat) f H'=> ∃(bl:List UInt8) (i:Nat),∃al U,∃(Z:Nat),∃F',F.le F'/\HS _ F' H' [[(g,.cells [(S_ U bl Z)] _ _)],al] R/\OZ F' U bl Z al/\aI f [(0,(pT g 0)),(1,(.int _ _)),(2,(sL _ _ _)),(6,(.int _ (i:Int)))]/\mm=deep-i/\(bl=w.b++sp i)/\(i<=deep)) _ ⟨w.b,0,w.p,w.a,w.k,_,fR,hs,c3,f_,V,(by simp[sp]),M⟩ ?_;rintro ee f2 H2 ⟨bl,i,al,U,Z,F2,a2,a4,aA,a8,rfl,h1,hi⟩ b8;refine aw _ a8 (λ_=>?_);clear a8;have hts:=hts.ac a2;refine aj 2 V ?_;refine wr 1 [] 9 11 [] [(11,(decide ((i:Int)<(deep:Int))))] trivial V V λ_=>?_
 refine zd 3 6 (λc4=>?_) λc4=>?_
 ·have zb:Q bl=Q w.b+2 *i:=by rw[h1,a00,sp_len]
  refine ab ?_;refine cS 5 0 14 18 [] [(14,(pT g 0)),(18,(sL _ _ _))] (Hr_ 4 0 Hn_) a4 V V λ_=>?_
  refine bd (rs_appS (q:=1) aA a4 V V V V V V V V V V M) V V ?_;rintro _ H7 p6 ⟨a6,k6,rfl,b5,b6,_⟩;refine sgo 3 6 20 21 [] [] (Hr_ 8 0 Hn_) b6 V V λd9 H8 b7=>?_
  refine ai 2 V ?_;refine wr 1 [] 12 13 [6] [(6,(.int _ _))] (vA (vi) trivial) V V λ_=>?_
  refine b8 _ _ _ ?_ ⟨_,i+1,p6,a6,k6,_,(a2),b7,b5,f_,V,(by rw[h1,sp_s,a0b]),M⟩;omega
 have c0:i=deep:=M
 have h2:bl=w.b++sp deep:=by rw[h1,c0]
 refine wr 2 [] 22 24 [] [(22,(sL _ _ _)),(23,(.int _ _)),(24,(.int _ 0))] trivial V V λ_=>?_
 refine ak (λ(mm:Nat) f H'=> ∃(bk:List UInt8) (j:Nat),∃T E,∃(O:Nat),∃F',F2.le F'/\HS _ F' H' [[(g,.cells [(S_ E bk O)] _ _)],T] R/\OZ F' E bk O T/\aI f [(0,(pT g 0)),(22,(sL _ _ _)),(23,(.int _ _)),(24,(.int _ (j:Int)))]/\mm=Q ts-j/\(bk=w.b++(sp deep++(ts.take j).flatMap Str.b))/\(j<=Q ts)) _ ⟨bl,0,_,_,_,_,fR,a4,aA,f_,V,(by(rw[h2];simp)),M⟩ ?_;rintro dk d8 d1 ⟨bk,j,T,E,O,dt,a1,an,ax,a3,rfl,g1,hj⟩ b1;refine aw _ a3 (λ_=>?_);clear a3;have hts:=hts.ac a1;refine aj 1 V ?_;refine wr 2 [] 25 25 [] [(25,(decide ((j:Int)<(Q ts:Int))))] trivial V V λ_=>?_
 refine zd 4 4 (λb4=>?_) λb4=>?_
 ·have zb:Q bk=Q w.b+(2 *deep+Q ((ts.take j).flatMap Str.b)):=by rw[g1,a00,a00,sp_len]
  have zc:=fm_le (s:=ts) (j:=j+1);rw[←fm_tk M,a00]at zc;have⟨c5,b0⟩:=Sv.Gg (SR.sv hts an);refine wrp 1 26 27 [8] [(8,(tX (Y ts j _).b))] (Ha_ (Sv.ix (SR.sv hts an)) (Hl_ 1 (ql 9 0 (vS (b0 j)) V V) Hn_)) V V λ_=>?_
  refine ab ?_;refine cS 6 0 28 33 [] [(28,(pT g 0)),(32,(sL _ _ _)),(33,(tX (Y ts j _).b))] (Hr_ 4 0 Hn_) an V V λ_=>?_
  refine bd (rs_appS (q:=1) ax an V V V V V V V V V V M) V V ?_;rintro _ d2 ci ⟨b2,b9,rfl,ba,bn,_⟩;refine sgo 3 7 35 36 [] [] (Hr_ 9 0 Hn_) bn V V λc6 d3 bt=>?_
  refine ai 2 V ?_;refine wr 1 [] 24 24 [37] [(24,(.int _ _))] (vA (vi) trivial) V V λ_=>?_
  refine b1 _ _ _ ?_ ⟨_,j+1,ci,b2,b9,_,(a1),bt,ba,f_,V,(by rw[g1,←fm_tk M];simp only[a0b]),M⟩;omega
 have zb:Q bk=Q w.b+(2 *deep+Q (ts.flatMap Str.b)):=by rw[g1,a0s M,a00,a00,sp_len]
 refine ab ?_;refine cS 5 0 38 42 [] [(38,(pT g 0)),(42,(sL _ _ _))] (Hr_ 4 0 Hn_) an V V λ_=>?_
 refine zlo [(UInt8.ofNat 10)] an V (RL.cs (u8r M) RL.nl) V λd7 ea em d4 bb a5=>?_
 refine zao 1 ax a5 (OS.sv bb a5 (i:=2) V) V V V M λb3 ch co d5 bf bw=>?_
 refine sgo 3 7 45 46 [] [] (Hr_ 9 0 Hn_) bw V V λc7 d6 bF=>?_
 refine ai 0 V ?_;refine ao ⟨.inl V,_,V,⟨_,b3,ch,co,OS.low bf⟩,_,(fT (a2) a1),(HS.own2 bF),V,(by refine(congrArg (· ++[10]) g1).trans ?_;rw[a0s M];simp only[lnT,a0b])⟩
theorem wt_s{s:StmT}(h:wfS s=true):eQ s.y=true/\wfK s=true/\dB s.G4=true/\dB s.G7=true:=by rw[wf_s,a04,a04,wfA,a04]at h;exact⟨h.1.1.1,h.1.1.2,h.1.2,h.2⟩
section
variable {s:StmT} {d:Nat}
theorem st_1(h:s.j=1):fmS s (sp d)=lnT d [⟨s.pp.b⟩,⟨[32,61,32]⟩,⟨fmE s.val⟩,⟨[59]⟩]:=by rw[fm_s,fk_1 h];simp[lnT]
theorem st_2(h:s.j=2):fmS s (sp d)=lnT d [⟨s.pp.b⟩,⟨[91]⟩,⟨fmE s.G2⟩,⟨[93,32,61,32]⟩,⟨fmE s.val⟩,⟨[59]⟩]:=by rw[fm_s,fk_2 h];simp[lnT]
theorem st_5(h:s.j=5):fmS s (sp d)=lnT d [⟨[111,117,116,32]⟩,⟨fmE s.val⟩,⟨[59]⟩]:=by rw[fm_s,fk_5 h];simp[lnT]
theorem st_7(h:s.j=7):fmS s (sp d)=lnT d [⟨[116,114,97,112,32]⟩,⟨dI s.n⟩,⟨[59]⟩]:=by rw[fm_s,fk_7 h];simp[lnT]
theorem st_6(h:s.j=6):fmS s (sp d)=lnT d [⟨s.pp.b⟩,⟨[32,61,32]⟩,⟨s.K.b⟩,⟨[40]⟩,⟨jn8 (ko (fV s.y))⟩,⟨[41,59]⟩]:=by rw[fm_s,fk_6 M M M M M M];simp[lnT]
theorem st_4(h:s.j=4):fmS s (sp d)=(lnT d [⟨[119,104,105,108,101,32,40]⟩,⟨fmE s.val⟩,⟨[41,32,123]⟩]++eC s.G4 (sp (d+1)))++lnT d [⟨[125]⟩]:=by rw[fm_s,fk_4 h,sp_s];simp[lnT]
theorem st_3(h:s.j=3)(e:0<Q s.G7):fmS s (sp d)=(((lnT d [⟨[105,102,32,40]⟩,⟨fmE s.val⟩,⟨[41,32,123]⟩]++eC s.G4 (sp (d+1)))++lnT d [⟨[125,32,101,108,115,101,32,123]⟩])++eC s.G7 (sp (d+1)))++lnT d [⟨[125]⟩]:=by rw[fm_s,fk_3 h,if_pos e,sp_s];simp[lnT]
theorem st_3n(h:s.j=3)(e: ¬0<Q s.G7):fmS s (sp d)=(lnT d [⟨[105,102,32,40]⟩,⟨fmE s.val⟩,⟨[41,32,123]⟩]++eC s.G4 (sp (d+1)))++lnT d [⟨[125]⟩]:=by rw[fm_s,fk_3 h,if_neg e,sp_s];simp[lnT]
theorem st_3l(h:s.j=3):Q (lnT d [⟨[105,102,32,40]⟩,⟨fmE s.val⟩,⟨[41,32,123]⟩])+Q (eC s.G4 (sp (d+1)))<=Q (fmS s (sp d)):=by
 by_cases e:0<Q s.G7
 ·rw[st_3 h e];simp only[a00];omega
 rw[st_3n h e];simp only[a00];omega
theorem wk_k(h:wfK s=true):1<=s.j/\s.j<=7:=by
 unfold wfK at h;repeat' split at h
 all_goals first|omega|cases h
end
theorem fmd5{l:List StmT}{i:Nat}{ind:List UInt8}(h:i<Q l):eC (l.drop i) ind=fmS (Y l i default) ind++eC (l.drop (i+1)) ind:=by rw[cz (d:=default) h,eC]
theorem fm_1s(a:List UInt8):([(⟨a⟩:Str)]:List Str).flatMap Str.b=a:=by simp
theorem fm_cs(a:List UInt8)(s:List Str):((⟨a⟩:Str)::s).flatMap Str.b=a++s.flatMap Str.b:=rfl
def PrtAll5(ex:FuncId)(N:Nat):Prop:=
 (∀{g:Nat} {U:Option Addr} {ar:Nat} {T:Option Addr} {an:Nat} {O:Option Addr} {al:Nat} {E:Option Addr} {Z:Nat} {ax:Option Addr} {aA:Nat} (s:StmT) (deep:Nat) (w:GdT) {F:Fz} {H:Heap} {R:List Fp} (hs:HS (.of H ((psG g w).map Prod.fst)) F H [(psG g w)] R) (hs_0:in64 s.j) (hs_3:in64 s.n) (hs_4:in64 s.G2.j) (hs_5:in64 s.G2.n) (hs_7:in64 s.G2.op) (hs_8:SR F (sL ax (Q s.G2.I) aA) s.G2.I) (hs_9:in64 s.val.j) (hs_10:in64 s.val.n) (hs_12:in64 s.val.op) (hs_13:SR F (sL E (Q s.val.I) Z) s.val.I) (hs_14:SR F (sL O (Q s.y) al) s.y) (hs_15:SR F (sL T (Q s.G4) an) s.G4) (hs_16:SR F (sL U (Q s.G7) ar) s.G7) (hd:deep+ndS s<2000000000) (hw:wfS s=true) (hlen:Q w.b+Q (fmS s (sp deep))<=2000000000) (hm:2 *ndS s<N),C Tryz.prog 0 (KX ex) 54 [(pT g 0),(.agg ⟨[(iI s.j),(tX s.pp.b),(tX s.K.b),(iI s.n),(iI s.G2.j),(iI s.G2.n),(tX s.G2.pp.b),(iI s.G2.op),(sL ax (Q s.G2.I) aA),(iI s.val.j),(iI s.val.n),(tX s.val.pp.b),(iI s.val.op),(sL E (Q s.val.I) Z),(sL O (Q s.y) al),(sL T (Q s.G4) an),(sL U (Q s.G7) ar)]⟩),(iI (deep:Int))] H λv H'=> ∃(w':GdT),∃F',F.le F'/\HS (.of H ((psG g w).map Prod.fst)) F' H' [(psG g w')] R/\v= .tuple #[]/\(w'.b=w.b++fmS s (sp deep)))/\
 (∀{g:Nat} {a1:Option Addr} {a2:Nat} (l:List StmT) (deep:Nat) (w:GdT) {F:Fz} {H:Heap} {R:List Fp} (hs:HS (.of H ((psG g w).map Prod.fst)) F H [(psG g w)] R) (hl:SR F (sL a1 (Q l) a2) l) (hd:deep+fw l<2000000000) (hw:dB l=true) (hlen:Q w.b+Q (eC l (sp deep))<=2000000000) (hm:2 *fw l+1<N),C Tryz.prog 0 (KX ex) 25 [(pT g 0),(sL a1 (Q l) a2),(iI (deep:Int))] H λv H'=> ∃(w':GdT),∃F',F.le F'/\HS (.of H ((psG g w).map Prod.fst)) F' H' [(psG g w')] R/\v= .tuple #[]/\(w'.b=w.b++eC l (sp deep)))
theorem stmt5_c_s{g bF b9 bw b8 bt b7 bn b6 ch d7}(s:StmT)(deep:Nat)(w:GdT)(hs:HS (.of H ((psG g w).map Prod.fst)) F H [(psG g w)] R)(qd:in64 s.j)(qe:in64 s.n)(qf:in64 s.G2.j)(qg:in64 s.G2.n)(qh:in64 s.G2.op)(lx:Sr F ch s.G2.I d7)(qi:in64 s.val.j)(o3:in64 s.val.n)(o4:in64 s.val.op)(T:Sr F bn s.val.I b6)(a4:Sr F bt s.y b7)(U:Sr F bw s.G4 b8)(a1:Sr F bF s.G7 b9)(hd:deep+ndS s<2000000000)(hw:wfS s=true)(cv:Q w.b+Q (fmS s (sp deep))<=2000000000)(N:Nat)(ih:PrtAll5 ex N)(hm:2 *ndS s<N+1):kKt ex 54 [(pT g 0),(aG [s.j,(tX s.pp.b),(tX s.K.b),s.n,s.G2.j,s.G2.n,(tX s.G2.pp.b),s.G2.op,(S_ ch s.G2.I d7),s.val.j,s.val.n,(tX s.val.pp.b),s.val.op,(S_ bn s.val.I b6),(S_ bt s.y b7),(S_ bw s.G4 b8),(S_ bF s.G7 b9)]),(deep:Int)] H λv H'=> ∃(w':GdT),∃F',F.le F'/\HS (.of H ((psG g w).map Prod.fst)) F' H' [(psG g w')] R/\v= .tuple #[]/\(w'.b=w.b++fmS s (sp deep)):=by
 have sk:=ns_s s;have⟨s3,zk,uL,uI⟩:=wt_s hw;have zv:=wk_v zk;have za:=wk_a zk;have uJ:=wk_k zk;have uK:=kX s.y;refine ay Tryz.func54 V V ?_;refine aj 1 V ?_;refine ab ?_;refine bd (aW hs V V) V V ?_;rintro _ H2 _ ⟨b1,rfl,E,_⟩;refine ai 2 V ?_;refine bQ 3 9 10 [] [(10,(.int _ _))] (Hr_ 1 1 Hn_) E V V λ_=>?_
 refine wr 1 [] 11 12 [] [(11,(s.j==1))] trivial V V λ_=>?_
 refine zI 0 1 (λc5=>?_) λc5=>?_
 ·have cp:=st_1 (s:=s) (d:=deep) M;have ar:=cv;rw[cp]at ar;have zx:=ar;simp only[jX,fm_cs,fm_1s,a00,a02,a03]at zx;refine az V ?_;refine cC 6 13 18 [] [(13,(pT g 0)),(14,(.int _ _)),(16,(tX s.pp.b)),(18,(aG [_,_,_,_,_]))] (Hr_ 3 1 (Hr_ 5 1 Hn_)) E V V λ_=>?_
  refine bH (bj V V V) V V V (dg.ir ex _ (HS.call E.G5) M M M T M (by exact zv M) M) (⟨.inl V,.inl V,.inr a0g,l_⟩) ?_;rintro _ H7 ⟨x7,F7,n3,a5,rfl,rfl⟩;refine⟨Wr.did a5.log,λn6 h6=>?_⟩;replace a5:=HS.G8 E.G5 V a5;replace a5:=HS.lg a5 E h6;generalize ({H7 with log:=n6}:Heap)=rl at a5⊢;refine zld ([⟨s.pp.b⟩,_,_,_]:List Str) a5 V j_ V λa8 k8 p8 rA n4 n5=>?_
  have⟨qB,hH,c3,i9,p2⟩:=OS.Gi n4 n5 (i:=2) V;refine bH (W:=((psG g w).map Prod.fst)) (bj V V V) V V V (dQ ex _ _ w (HS.Gh c3.G5 (i:=0) V) i9 M M M) (kb V) ?_;rintro _ mv ⟨qp,qA,hG,Z,rfl,e4⟩;refine⟨HS.didW Z,λl3 g4=>?_⟩;replace Z:=HS.backOwn c3.G5 (i:=0) V V (λ_ hb=>hb) Z;replace Z:=HS.lg Z c3 g4;generalize ({mv with log:=l3}:Heap)=pm at Z⊢;have hh:=congrArg List.length e4;rw[a00]at hh;refine aQ 1 V ?_;refine ao ⟨.inl V,_,V,_,_,(fT (fT (n3) hH) hG),(HS.G9 Z),V,(by(rw[cp,e4];done))⟩
 refine wr 1 [] 22 23 [] [(22,(s.j==6))] trivial V V λ_=>?_
 refine zI 1 1 (λm6=>?_) λm6=>?_
 ·have cp:=st_6 (s:=s) (d:=deep) M;have ar:=cv;rw[cp]at ar;have zx:=ar;simp only[jX,fm_cs,fm_1s,a00,a02,a03]at zx;have zJ:Q (jn8 (ko (fV s.y)))<=1099511627776:=M
  refine wr 3 [] 1 0 [6] [(6,(sL _ 0 0))] trivial V V λ_=>?_
  refine bQ 2 24 27 [] [(25,(sL _ _ _)),(26,(.int _ _)),(27,(.int _ 0))] (Hr_ 1 1 Hn_) E V V λ_=>?_
  have kt:=HS.snoc E;refine ak (λ(mm:Nat) f H'=> ∃(al:List Str) (k:Nat),∃bb,∃(bf:Nat),∃bl F',F.le F'/\HS _ F' H' [_,[(b1,.cells [_,_,_,_,_,_,_,_,_,_,_,_,_,_,_,_,_] _ _)],bl] R/\OZ F' bb al bf bl/\aI f [(0,(pT g 0)),(2,(.int _ _)),(4,(pT b1 0)),(6,(S_ bb al bf)),(25,(sL _ _ _)),(26,(.int _ _)),(27,(.int _ (k:Int)))]/\mm=Q s.y-k/\(al=(ko (fV s.y)).take k)/\(Q al=k)/\(k<=Q s.y)) _ ⟨_,0,_,0,[],_,fR,kt,(OS.nil:OS _ _ _ []),⟨V,V,V,V,V,V,V,trivial⟩,V,k_,k_,M⟩ ?_;rintro qm rO mx ⟨al,k,bb,bf,bl,qC,ci,a3,a2,fu,rfl,ha,hll,hk⟩ lz;refine aw _ fu (λ_=>?_);clear fu;have a4:=a4.ac ci;refine aj 1 V ?_;refine wr 2 [] 28 28 [] [(28,(decide ((k:Int)<(Q s.y:Int))))] trivial V V λ_=>?_
  refine zd 4 4 (λm7=>?_) λm7=>?_
  ·have qk:=oO (l:=s.y) (i:=k) M;refine ab ?_;have⟨pZ,f9⟩:=Sv.Gg (SR.sv a4 a3);have⟨oo,ox,o0,hy⟩:=ExpT.fx (f9 k);refine cu 2 0 29 30 [] [(30,(aG [_,_,_,_,_]))] (Ha_ (Sv.ix (SR.sv a4 a3)) (Hl_ 1 (qn 46 0 5 (ExpT.vw (f9 k)) V V V V) Hn_)) V V λ_=>?_
   refine zn a3 V λrM q3 kx=>?_
   refine sgo 1 3 1 0 [] [] (Hr_ 3 3 Hn_) kx V V λp0 q4 c4=>?_
   refine ai 1 V ?_;refine ab ?_;refine cS 2 0 31 32 [] [(31,(sL _ _ _)),(32,(aG [_,_,_,_,_]))] (Hr_ 1 3 Hn_) c4 V V λ_=>?_
   refine zc (dg.ir ex _ (HS.call c4) M M M hy M (by exact i6 s3 M) (by exact a0i (jn_le _ _ (at_mem M)) zJ)) ?_;rintro _ q5 ⟨sc,qD,em,c6,rfl,rfl⟩;replace c6:=HS.G8 c4 V c6;have a2:=a2.ac em;refine zlo ([⟨fmE (Y s.y k _)⟩]:List Str) c6 V (RL.cs V RL.nl) V λrB rP r1 q6 h7 f1=>?_
   refine zao 2 a2 f1 (OS.sv h7 f1 (i:=4) V) V V V M λhB hC n7 q7 h8 kA=>?_
   refine wa (sL hB _ hC) V V V ?_;refine ai 2 V ?_;refine wr 1 [] 27 27 [36] [(27,(.int _ _))] (vA (vi) trivial) V V λ_=>?_
   refine lz _ _ _ ?_ ⟨_,k+1,hB,hC,n7,_,(fT (ci) em),(HS.sub kA (a06 _ _)),h8,⟨V,V,V,V,V,V,V,trivial⟩,V,(by rw[ha];exact(st_n M).symm),(by rw[a00,hll];rfl),M⟩;omega
  have fz:al=ko (fV s.y):=by rw[ha,a0s (by rw[oB];omega)]
  refine az V ?_;have⟨ms,p1,c7,jw,p3⟩:=OS.Gi a2 a3 (i:=2) V;have c7:HS (Base.of H ((psG g w).map Prod.fst)) ms mx [(psG g w),(fP b1 [s.j,(tX s.pp.b),(tX s.K.b),s.n,s.G2.j,s.G2.n,(tX s.G2.pp.b),s.G2.op,(S_ ch s.G2.I d7),s.val.j,s.val.n,(tX s.val.pp.b),s.val.op,(S_ bn s.val.I b6),(S_ bt s.y b7),(S_ bw s.G4 b8),(S_ bF s.G7 b9)]),[]] R:=c7;refine cC 8 37 44 [] [(37,(pT g 0)),(38,(.int _ _)),(40,(tX s.pp.b)),(42,(tX s.K.b)),(44,(tX (jn8 al)))] (Hr_ 3 1 (Hr_ 5 1 (Hc_ 7 (dg.mK ex al (HS.call c7.G5) jw (by(rw[fz];first|exact a0i zJ e_|exact zJ|(rw[oB];omega))) (by(rw[fz];first|exact a0i zJ e_|exact zJ|(rw[oB];omega)))) Hn_))) a3 V V λ_=>?_
  refine zld ([⟨s.pp.b⟩,_,⟨s.K.b⟩,_,⟨jn8 al⟩,_]:List Str) a3 V j_ V λrD rQ r2 pv h9 k0=>?_
  have⟨qF,hJ,c8,jA,p4⟩:=OS.Gi h9 k0 (i:=3) V;refine bH (W:=((psG g w).map Prod.fst)) (bj V V V) V V V (dQ ex _ _ w (HS.Gh c8.G5 (i:=0) V) jA M M (by(rw[fz];exact ar))) (kb V) ?_;rintro _ m0 ⟨qq,qE,hI,an,rfl,e5⟩;refine⟨HS.didW an,λl5 g5=>?_⟩;replace an:=HS.backOwn c8.G5 (i:=0) V V (λ_ hb=>hb) an;replace an:=HS.lg an c8 g5;generalize ({m0 with log:=l5}:Heap)=px at an⊢;have hj:=congrArg List.length e5;rw[a00]at hj;refine aQ 1 V ?_;refine ao ⟨.inl V,_,V,_,_,(fT (fT (ci) hJ) hI),(HS.G9 an),V,(by(rw[cp,e5,fz];done))⟩
 refine wr 1 [] 47 48 [] [(47,(s.j==2))] trivial V V λ_=>?_
 refine zI 0 1 (λm9=>?_) λm9=>?_
 ·have cp:=st_2 (s:=s) (d:=deep) M;have ar:=cv;rw[cp]at ar;have zx:=ar;simp only[jX,fm_cs,fm_1s,a00,a02,a03]at zx;refine az V ?_;refine cC 6 49 54 [] [(49,(pT g 0)),(50,(.int _ _)),(52,(tX s.pp.b)),(54,(aG [_,_,_,_,_]))] (Hr_ 3 1 (Hr_ 5 1 Hn_)) E V V λ_=>?_
  refine bH (bj V V V) V V V (dg.ir ex _ (HS.call E.G5) M M M lx M (by exact za M) M) (⟨.inl V,.inl V,.inr a0g,l_⟩) ?_;rintro _ m1 ⟨sd,qG,et,O,rfl,rfl⟩;refine⟨Wr.did O.log,λma g6=>?_⟩;replace O:=HS.G8 E.G5 V O;replace O:=HS.lg O E g6;generalize ({m1 with log:=ma}:Heap)=pA at O⊢;have T:=T.ac et;refine zp 9 ?_;refine bh (v:=(aG [_,_,_,_,_])) (cm (i:=9) V V V (HS.hc O.G5 (i:=1) V) V V V) V V (iz V) (⟨.inl V,.inr a0g,l_⟩) ?_;refine bH (bj V V V) V V V (dg.ir ex _ (HS.call O.G5) M M M T M (by exact zv M) M) (⟨.inl V,.inl V,.inl V,.inl V,.inl V,.inr a0g,l_⟩) ?_;rintro _ m2 ⟨se,qH,hK,ax,rfl,rfl⟩;refine⟨Wr.did ax.log,λmf g7=>?_⟩;replace ax:=HS.G8 O.G5 V ax;replace ax:=HS.lg ax O g7;generalize ({m2 with log:=mf}:Heap)=pS at ax⊢;refine zld ([⟨s.pp.b⟩,_,_,_,_,_]:List Str) ax V j_ V λrE rR r3 pU ia k3=>?_
  have⟨qJ,hS,c9,j1,p5⟩:=OS.Gi ia k3 (i:=2) V;refine bH (W:=((psG g w).map Prod.fst)) (bj V V V) V V V (dQ ex _ _ w (HS.Gh c9.G5 (i:=0) V) j1 M M M) (kb V) ?_;rintro _ m3 ⟨qr,qI,hQ,aA,rfl,e6⟩;refine⟨HS.didW aA,λmg g8=>?_⟩;replace aA:=HS.backOwn c9.G5 (i:=0) V V (λ_ hb=>hb) aA;replace aA:=HS.lg aA c9 g8;generalize ({m3 with log:=mg}:Heap)=pV at aA⊢;have hl:=congrArg List.length e6;rw[a00]at hl;refine aQ 1 V ?_;refine ao ⟨.inl V,_,V,_,_,(fT (fT (fT (et) hK) hS) hQ),(HS.G9 aA),V,(by(rw[cp,e6];done))⟩
 refine wr 1 [] 61 62 [] [(61,(s.j==5))] trivial V V λ_=>?_
 refine zI 0 1 (λnc=>?_) λnc=>?_
 ·have cp:=st_5 (s:=s) (d:=deep) M;have ar:=cv;rw[cp]at ar;have zx:=ar;simp only[jX,fm_cs,fm_1s,a00,a02,a03]at zx;refine ab ?_;refine cS 4 0 63 66 [] [(63,(pT g 0)),(64,(.int _ _)),(66,(aG [_,_,_,_,_]))] (Hr_ 3 1 Hn_) E V V λ_=>?_
  refine zc (dg.ir ex _ (HS.call E) M M M T M (by exact zv M) M) ?_;rintro _ q8 ⟨sf,qK,hT,dk,rfl,rfl⟩;replace dk:=HS.G8 E V dk;refine zlo ([_,_,_]:List Str) dk V j_ V λrF rS r4 q9 ik k4=>?_
  have⟨qM,hW,f2,j2,p6⟩:=OS.Gi ik k4 (i:=2) V;refine zc (dQ ex deep _ w (g_ f2 V) j2 M M M) ?_;rintro _ ra ⟨qs,qL,hV,dn,rfl,e7⟩;replace dn:=f2.bO dn;have hn:=congrArg List.length e7;rw[a00]at hn;refine ai 1 V ?_;refine ao ⟨.inl V,_,V,_,_,(fT (fT (hT) hW) hV),(HS.G9 dn),V,(by(rw[cp,e7];done))⟩
 refine wr 1 [] 70 71 [] [(70,(s.j==7))] trivial V V λ_=>?_
 refine zI 0 1 (λnn=>?_) λnn=>?_
 ·have cp:=st_7 (s:=s) (d:=deep) M;have ar:=cv;rw[cp]at ar;have zx:=ar;simp only[jX,fm_cs,fm_1s,a00,a02,a03]at zx;refine ab ?_;refine cS 4 0 72 75 [] [(72,(pT g 0)),(73,(.int _ _)),(75,(.int _ s.n))] (Hr_ 3 1 Hn_) E V V λ_=>?_
  refine zc (w3.text_c ex s.n (HS.call E) M) ?_;rintro _ rb ⟨sb,qN,hX,dt,rfl,rfl⟩;replace dt:=HS.G8 E V dt;refine zlo ([_,⟨dI s.n⟩,_]:List Str) dt V j_ V λrG rU r5 rc it k5=>?_
  have⟨qP,h1,f3,kd,p7⟩:=OS.Gi it k5 (i:=2) V;refine zc (dQ ex deep _ w (g_ f3 V) kd M M M) ?_;rintro _ re ⟨qt,qO,h0,d1,rfl,e8⟩;replace d1:=f3.bO d1;have ho:=congrArg List.length e8;rw[a00]at ho;refine ai 1 V ?_;refine ao ⟨.inl V,_,V,_,_,(fT (fT (hX) h1) h0),(HS.G9 d1),V,(by(rw[cp,e8];done))⟩
 refine wr 1 [] 79 80 [] [(79,(s.j==4))] trivial V V λ_=>?_
 refine zI 1 1 (λn1=>?_) λn1=>?_
 ·have cp:=st_4 (s:=s) (d:=deep) M;have ar:=cv;rw[cp]at ar;have zx:=ar;simp only[jX,fm_cs,fm_1s,a00,a02,a03]at zx;simp only[a00]at ar;refine ab ?_;refine cS 4 0 81 84 [] [(81,(pT g 0)),(82,(.int _ _)),(84,(aG [_,_,_,_,_]))] (Hr_ 3 1 Hn_) E V V λ_=>?_
  refine zc (dg.ir ex _ (HS.call E) M M M T M (by exact zv M) M) ?_;rintro _ rf ⟨sg,qQ,ez,d2,rfl,rfl⟩;replace d2:=HS.G8 E V d2;refine zlo ([_,_,_]:List Str) d2 V j_ V λrH rV r6 rg iv k6=>?_
  have⟨qS,e1,f4,ki,p9⟩:=OS.Gi iv k6 (i:=2) V;refine zc (dQ ex deep _ w (g_ f4 V) ki M M M) ?_;rintro _ rh ⟨qu,qR,e0,a6,rfl,fb⟩;replace a6:=f4.bO a6;replace U:=((U.ac ez).ac e1).ac e0;have hp:=congrArg List.length fb;rw[a00]at hp;refine ai 2 V ?_;refine ab ?_;refine cS 5 0 88 92 [] [(88,(pT g 0)),(90,(sL _ _ _)),(92,(.int _ _))] (Hr_ 2 1 (Ha_ (vi) Hn_)) a6 V V λ_=>?_
  refine zc (ih.2 _ (deep+1) _ (g_ a6 V) U M M M M) ?_;rintro _ ri ⟨qv,qT,h2,d3,rfl,fd⟩;replace d3:=a6.bO d3;have hq:=congrArg List.length fd;rw[a00]at hq;refine ai 1 V ?_;refine ab ?_;refine wro 2 0 [] 94 95 [] [(94,(pT g 0)),(95,(.int _ _))] trivial V V λ_=>?_
  refine zlo ([⟨[125]⟩]:List Str) d3 V (RL.cs V RL.nl) V λrI rW r7 rj i0 k7=>?_
  have⟨qV,h4,f5,kk,qa⟩:=OS.Gi i0 k7 (i:=3) V;refine zc (dQ ex deep _ _ (g_ f5 V) kk M M M) ?_;rintro _ rk ⟨qw,qU,h3,d4,rfl,fi⟩;replace d4:=f5.bO d4;have hr:=congrArg List.length fi;rw[a00]at hr;refine ai 1 V ?_;refine ao ⟨.inl V,_,V,_,_,(fT (fT (fT (fT (fT (ez) e1) e0) h2) h4) h3),(HS.G9 d4),V,(by(rw[cp,fi,fd,fb];simp only[dX,a0b];done))⟩
 have hD:s.j=3:=M
 have ar:=st_3l (s:=s) (d:=deep) hD;have zx:=ar;simp only[jX,fm_cs,fm_1s,a00,a02,a03]at zx;refine wr 1 [] 98 99 [] [(98,(s.j==3))] trivial V V λ_=>?_
 refine bx 1 V (by rw[hD];rfl) V V ?_;refine ab ?_;refine cS 4 0 100 103 [] [(100,(pT g 0)),(101,(.int _ _)),(103,(aG [_,_,_,_,_]))] (Hr_ 3 1 Hn_) E V V λ_=>?_
 refine zc (dg.ir ex _ (HS.call E) M M M T M (by exact zv M) M) ?_;rintro _ rm ⟨si,qW,b0,d5,rfl,rfl⟩;replace d5:=HS.G8 E V d5;refine zlo ([_,_,_]:List Str) d5 V j_ V λrJ rX r8 rn i1 k9=>?_
 have⟨qY,b3,f6,kl,qb⟩:=OS.Gi i1 k9 (i:=2) V;refine zc (dQ ex deep _ w (g_ f6 V) kl M M M) ?_;rintro _ rq ⟨qx,qX,b2,a7,rfl,cL⟩;replace a7:=f6.bO a7;replace U:=((U.ac b0).ac b3).ac b2;have ht:=congrArg List.length cL;rw[a00]at ht;refine ai 2 V ?_;refine ab ?_;refine cS 5 0 107 111 [] [(107,(pT g 0)),(109,(sL _ _ _)),(111,(.int _ _))] (Hr_ 2 1 (Ha_ (vi) Hn_)) a7 V V λ_=>?_
 refine zc (ih.2 _ (deep+1) _ (g_ a7 V) U M M M M) ?_;rintro _ rr ⟨mp,qZ,co,a9,rfl,c0⟩;replace a9:=a7.bO a9;replace a1:=(((a1.ac b0).ac b3).ac b2).ac co;have hu:=congrArg List.length c0;rw[a00]at hu;refine ai 3 V ?_;refine bQ 1 113 116 [] [(116,(decide ((0:Int)<(Q s.G7:Int))))] (Hr_ 1 1 Hn_) a9 V V λ_=>?_
 refine zd 1 1 (λn2=>?_) λn2=>?_
 ·have cp:=st_3 (s:=s) (d:=deep) M M;have zM:=cv;rw[cp]at zM;simp only[a00]at zM;refine ab ?_;refine wro 2 0 [] 117 118 [] [(117,(pT g 0)),(118,(.int _ _))] trivial V V λ_=>?_
  refine zlo ([⟨[125,32,101,108,115,101,32,123]⟩]:List Str) a9 V (RL.cs V RL.nl) V λrK rY r9 rv i2 ll=>?_
  have⟨q1,e3,f7,kn,qc⟩:=OS.Gi i2 ll (i:=3) V;refine zc (dQ ex deep _ _ (g_ f7 V) kn M M M) ?_;rintro _ rx ⟨qy,q0,e2,ba,rfl,fk⟩;replace ba:=f7.bO ba;replace a1:=(a1.ac e3).ac e2;have hv:=congrArg List.length fk;rw[a00]at hv;refine ai 1 V ?_;refine ab ?_;refine cS 5 0 121 125 [] [(121,(pT g 0)),(123,(sL _ _ _)),(125,(.int _ _))] (Hr_ 2 1 (Ha_ (vi) Hn_)) ba V V λ_=>?_
  refine zc (ih.2 _ (deep+1) _ (g_ ba V) a1 M M M M) ?_;rintro _ ry ⟨qz,q2,h5,d6,rfl,fq⟩;replace d6:=ba.bO d6;have hx:=congrArg List.length fq;rw[a00]at hx;refine ai 1 V ?_;refine ab ?_;refine wro 2 0 [] 127 128 [] [(127,(pT g 0)),(128,(.int _ _))] trivial V V λ_=>?_
  refine zlo ([⟨[125]⟩]:List Str) d6 V (RL.cs V RL.nl) V λrL r0 sa rz i3 lr=>?_
  have⟨o7,g1,ea,he,o1⟩:=OS.Gi i3 lr (i:=4) V;refine zc (dQ ex deep _ _ (g_ ea V) he M M M) ?_;rintro _ pi ⟨hz,o6,g0,b4,rfl,d8⟩;replace b4:=ea.bO b4;have gm:=congrArg List.length d8;rw[a00]at gm;refine ai 1 V ?_;refine ao ⟨.inl V,_,V,hz,_,(fT (fT (fT (fT (fT (fT (fT (fT (b0) b3) b2) co) e3) e2) h5) g1) g0),(HS.G9 b4),V,(by(rw[cp,d8,fq,fk,c0,cL];simp only[dX,a0b];done))⟩
 have cp:=st_3n (s:=s) (d:=deep) M M;have zM:=cv;rw[cp]at zM;simp only[a00]at zM;refine ab ?_;refine wTo 2 0 [] 127 128 [] [(127,(pT g 0)),(128,(deep:Int))] V λ_=>?_
 refine zlo ([⟨[125]⟩]:List Str) a9 V (RL.cs V RL.nl) V λpX qj qo pj g9 hg=>?_
 have⟨o9,g3,ee,hf,o2⟩:=OS.Gi g9 hg (i:=3) V;refine zc (dQ ex deep ([⟨[125]⟩]:List Str) mp (g_ ee V) hf M M M) ?_;rintro _ pl ⟨hA,o8,g2,b5,rfl,d9⟩;replace b5:=ee.bO b5;have go:=congrArg List.length d9;rw[a00]at go;refine ai 1 V ?_;refine ao ⟨.inl V,_,V,hA,_,(fT (fT (fT (fT (fT (b0) b3) b2) co) g3) g2),(HS.G9 b5),V,(by(rw[cp,d9,c0,cL];simp only[dX,a0b];done))⟩
theorem stmts5_c_s{g ar a7}(l:List StmT)(deep:Nat)(w:GdT)(hs:HS (.of H ((psG g w).map Prod.fst)) F H [(psG g w)] R)(hl:Sr F ar l a7)(hd:deep+fw l<2000000000)(hw:dB l=true)(ch:Q w.b+Q (eC l (sp deep))<=2000000000)(N:Nat)(ih:PrtAll5 ex N)(hm:2 *fw l+1<N+1):kKt ex 25 [(pT g 0),(S_ ar l a7),(deep:Int)] H λv H'=> ∃(w':GdT),∃F',F.le F'/\HS (.of H ((psG g w).map Prod.fst)) F' H' [(psG g w')] R/\v= .tuple #[]/\(w'.b=w.b++eC l (sp deep)):=by
 have b9:=nL l;refine ay Tryz.func25 V V ?_;refine aj 1 V ?_;refine wr 2 [] 8 10 [] [(8,(sL ar _ a7)),(9,(.int _ _)),(10,(.int _ 0))] trivial V V λ_=>?_
 refine ak (λ(mm:Nat) f H'=> ∃(i:Nat) (E:GdT),∃F',F.le F'/\HS _ F' H' [(psG g E)] R/\aI f [(0,(pT g 0)),(2,(.int _ _)),(8,(sL ar _ a7)),(9,(.int _ _)),(10,(.int _ (i:Int)))]/\mm=Q l-i/\(w.b++eC l _=E.b++eC (l.drop i) (sp deep))/\(i<=Q l)) _ ⟨0,w,_,fR,hs,f_,V,k_,M⟩ ?_;rintro b7 f2 H2 ⟨i,E,F2,Z,U,a3,rfl,g1,hi⟩ a9;refine aw _ a3 (λ_=>?_);clear a3;have hl:=hl.ac Z;refine aj 1 V ?_;refine wr 2 [] 11 11 [] [(11,(decide ((i:Int)<(Q l:Int))))] trivial V V λ_=>?_
 refine zd 4 3 (λc4=>?_) λc4=>?_
 ·have qa:=ns_at (l:=l) (i:=i) M;have zg:=g1;rw[fmd5 M]at zg;have dk:=ch;have zh:=congrArg List.length zg;simp only[a00]at zh;refine ab ?_;have⟨b6,a4⟩:=Sv.Gg (SR.sv hl U);have⟨bl,bn,bt,bw,bF,b0,ba,bb,a6,ax,aA,a1,a2⟩:=StmT.fx (a4 i);refine cu 2 0 12 13 [] [(13,(aG [_,_,_,_,_,_,_,_,_,_,_,_,_,_,_,_,_]))] (Ha_ (Sv.ix (SR.sv hl U)) (Hl_ 1 (qn 63 0 17 (StmT.vw (a4 i)) V V V V) Hn_)) V V λ_=>?_
  refine zn U V λb8 H9 a8=>?_
  refine sgo 1 3 1 0 [] [] (Hr_ 3 1 Hn_) a8 V V λb1 b4 O=>?_
  refine ai 1 V ?_;refine ab ?_;refine cS 3 0 14 16 [] [(14,(pT g 0)),(15,(aG [_,_,_,_,_,_,_,_,_,_,_,_,_,_,_,_,_])),(16,(.int _ _))] (Hr_ 1 1 Hn_) O V V λ_=>?_
  refine zc (ih.1 _ deep _ (g_ O V) M M M M M a6 M M M ax aA a1 a2 M (by exact wts_at hw M) M M) ?_;rintro _ b5 ⟨b2,b3,a5,T,rfl,al⟩;replace T:=O.bO T;have an:=congrArg List.length al;rw[a00]at an;refine ai 2 V ?_;refine wr 1 [] 10 10 [18] [(10,(.int _ _))] (vA (vi) trivial) V V λ_=>?_
  refine a9 _ _ _ ?_ ⟨i+1,_,_,(fT (Z) a5),(HS.sub T (a06 _ _)),f_,V,(by rw[zg,al,a0b]),M⟩;omega
 refine ao ⟨.inl V,_,V,_,_,(Z),(HS.G9 U),V,(by rw[g1,ew M,eC,a0k])⟩
theorem jK(ex:FuncId): ∀N,PrtAll5 ex N
 |0=>⟨by intros;omega,by intros;omega⟩
 |N+1=>⟨by intros;apply stmt5_c_s ex (N:=N) (ih:=jK ex N)<;>assumption,by intros;apply stmts5_c_s ex (N:=N) (ih:=jK ex N)<;>assumption⟩
theorem stmts5_c{g E O}(l:List StmT)(deep:Nat)(w:GdT)(hs:HS (.of H ((psG g w).map Prod.fst)) F H [(psG g w)] R)(U:Sr F E l O)(hd:deep+fw l<2000000000)(Z:dB l=true)(T:Q w.b+Q (eC l (sp deep))<=2000000000):kKt ex 25 [(pT g 0),(S_ E l O),(deep:Int)] H λv H'=> ∃(w':GdT),∃F',F.le F'/\HS (.of H ((psG g w).map Prod.fst)) F' H' [(psG g w')] R/\v= .tuple #[]/\(w'.b=w.b++eC l (sp deep)):=by apply(jK ex (2 *fw l+1+1)).2<;>first|assumption|exact a0y _
def cX(p:PrgT):List UInt8:=if ckP p=0 then txP p else []
theorem p5_0{p:PrgT}(h:ckP p≠0):cX p=[]:=by unfold cX;rw[if_neg h]
theorem p5_1{p:PrgT}{s:List UInt8}(h:ckP p=0)(e:txP p=s):cX p=s:=by unfold cX;rw[if_pos h,e]
theorem ar_x(a:ArrT):arT a=lnT 0 [⟨[97,114,114,97,121,32]⟩,⟨a.pp.b⟩,⟨[32]⟩,⟨dI a.len⟩,⟨[59]⟩]:=by unfold arT;simp[lnT,sp]
theorem fn_x5(f:FunT):fnT f=((lnT 0 [⟨[102,117,110,99,32]⟩,⟨f.pp.b⟩,⟨[40]⟩,⟨jn8 f.A⟩,⟨[41,32]⟩,⟨lcT f.B⟩,⟨[123]⟩]++eC f.G6 (sp 1))++lnT 1 [⟨[114,101,116,117,114,110,32]⟩,⟨fmE f.val⟩,⟨[59]⟩])++lnT 0 [⟨[125]⟩]:=by unfold fnT;rw[show sp 1=[32,32] from rfl];simp[lnT,show sp 1=[32,32] from V,show sp 0=[] from rfl]
theorem lc_1{l:List Str}(h:0<Q l):lcT l=([118,97,114,32]++jn8 l)++[32]:=by unfold lcT;rw[if_pos h]
theorem lc_0{l:List Str}(h: ¬0<Q l):lcT l=[]:=by unfold lcT;rw[if_neg h]
theorem lc_le(l:List Str):Q (jn8 l)<=Q (lcT l):=by
 cases l with
 |nil=>exact a07 _
 |cons a l=>rw[lc_1 m_];simp only[a00];omega
theorem oJ{a8 b0 b4 dn}(p:PrgT)(hs:Hb H F H [] R)(U:Sr F b4 p.d dn)(O:Sr F a8 p.U b0)(hn:NmP p)(hz:SnP p)(dt:ckP p=0->Q (txP p)<=2000000000):kKt ex 8 [(aG [(S_ b4 p.d dn),(S_ a8 p.U b0)])] H λv H'=> ∃(x:List UInt8),∃F',F.le F'/\Hb H F' H' [] R/\v=tX x/\x=cX p:=by
 have⟨p3,p4,m2⟩:=hz;refine ay Tryz.func8 V V ?_;refine aj 1 V ?_;refine ab ?_;refine bd (aW hs V V) V V ?_;rintro _ H2 _ ⟨b1,rfl,c4,_⟩;refine za (tX []) ?_;refine ai 3 V ?_;refine ab ?_;refine cS 1 0 9 9 [] [(9,(aG [_,_]))] (Hr_ 0 0 Hn_) c4 V V λ_=>?_
 refine zc (df.check5_c ex p (HS.call c4) U O (by exact hn)) ?_;rintro _ H4 ⟨o4,F4,b2,b3,rfl,rfl⟩;replace b3:=HS.G8 c4 V b3;have⟨U,O⟩:=M2 b2 U O;refine cu 1 2 11 11 [] [(11,(ckP p !=0))] Hn_ V V λ_=>?_
 refine ai 1 V ?_;refine zI 1 2 (λc6=>?_) λc6=>?_
 ·have a2:=c6;refine wr 1 [] 2 2 [] [(2,(tX []))] trivial V V λ_=>?_
  refine ag ⟨.inr V,_,V,[],_,(b2),(HS.G3 b3),V,(by exact(p5_0 a2).symm)⟩
 have a2:=c6;have pX:=dt a2;have⟨m0,p1⟩:=ck5_ok a2;refine ab ?_;refine zn b3 V λb8 H9 hh=>?_
 refine ai 3 V ?_;have c3:HS _ _ _ [_,((psG b8) (⟨[],none,0,[],OS.nil⟩:GdT))] _:=hh;refine bQ 2 12 15 [] [(13,(sL _ _ _)),(14,(.int _ _)),(15,(.int _ 0))] (Hr_ 1 0 Hn_) c3 V V λ_=>?_
 refine ak (λ(mm:Nat) f H'=> ∃(i:Nat) (an:GdT),∃F',F4.le F'/\HS _ F' H' [[(b1,.cells [_,_] _ _)],((psG b8) an)] R/\aI f [(1,(pT b1 0)),(3,(pT b8 0)),(13,(sL _ _ _)),(14,(.int _ _)),(15,(.int _ (i:Int)))]/\mm=Q p.d-i/\(txP p=an.b++((p.d.drop i).flatMap arT++p.U.flatMap fnT))/\(i<=Q p.d)) _ ⟨0,_,_,fR,c3,f_,V,k_,M⟩ ?_;rintro hG ki h8 ⟨i,an,g0,a3,aA,co,rfl,h1,hi⟩ f6;refine aw _ co (λ_=>?_);clear co;have⟨U,O⟩:=M2 a3 U O;refine aj 1 V ?_;refine wr 2 [] 16 16 [] [(16,(decide ((i:Int)<(Q p.d:Int))))] trivial V V λ_=>?_
 refine zd 4 6 (λg8=>?_) λg8=>?_
 ·have zg:=h1;rw[fl_arr (l:=p.d) M,ar_x]at zg;have zh:=congrArg List.length zg;simp only[a00]at zh;refine ab ?_;have⟨hw,c8⟩:=Sv.Gg (SR.sv U aA);have hj:=ArrT.fx (c8 i);refine cu 2 0 17 18 [] [(18,(aG [_,_]))] (Ha_ (Sv.ix (SR.sv U aA)) (Hl_ 1 (qn 49 0 2 (ArrT.vw (c8 i)) V V V V) Hn_)) V V λ_=>?_
  refine zn aA V λkd h9 fu=>?_
  refine sgo 1 3 1 0 [] [] (Hr_ 3 2 Hn_) fu V V λhy ia a4=>?_
  refine ai 1 V ?_;refine az V ?_;refine cC 4 19 22 [] [(20,(tX (Y p.d i _).pp.b)),(22,(.int _ _))] (Hr_ 1 2 (Hr_ 3 2 Hn_)) a4 V V λ_=>?_
  refine bH (bj V V V) V V V (w3.text_c ex _ (HS.call a4.G5) M) (⟨.inl V,.inl V,.inr a0g,l_⟩) ?_;rintro _ g3 ⟨k6,hT,et,Z,rfl,rfl⟩;refine⟨Wr.did Z.log,λf9 d1=>?_⟩;replace Z:=HS.G8 a4.G5 V Z;replace Z:=HS.lg Z a4 d1;generalize ({g3 with log:=f9}:Heap)=hq at Z⊢;refine zld ([_,⟨(Y p.d i _).pp.b⟩,_,⟨dI (Y p.d i _).len⟩,_]:List Str) Z V j_ V λjw kn k0 hr e6 f1=>?_
  have⟨hW,e0,bf,fd,hB⟩:=OS.Gi e6 f1 (i:=3) V;refine bH (W:=(((psG b8) an).map Prod.fst)) (bj V V V) V V V (dQ ex 0 _ _ (HS.Gh bf.G5 (i:=1) V) fd M M M) (kb V) ?_;rintro _ g4 ⟨hI,hV,ez,al,rfl,b6⟩;refine⟨HS.didW al,λgm d2=>?_⟩;replace al:=HS.backOwn bf.G5 (i:=1) V V (λ_ hb=>hb) al;replace al:=HS.lg al bf d2;generalize ({g4 with log:=gm}:Heap)=ht at al⊢;have d4:=congrArg List.length b6;rw[a00]at d4;refine aQ 2 V ?_;refine wr 1 [] 15 15 [26] [(15,(.int _ _))] (vA (vi) trivial) V V λ_=>?_
  refine f6 _ _ _ ?_ ⟨i+1,_,_,(fT (fT (fT (a3) et) e0) ez),(HS.sub al (a06 _ _)),f_,V,(by rw[zg,b6];simp only[a0b]),M⟩;omega
 refine bQ 2 27 30 [] [(28,(sL _ _ _)),(29,(.int _ _)),(30,(.int _ 0))] (Hr_ 1 0 Hn_) aA V V λ_=>?_
 refine ak (λ(mm:Nat) f H'=> ∃(k:Nat) (E:GdT),∃F',g0.le F'/\HS _ F' H' [_,((psG b8) E)] R/\aI f [(3,(pT b8 0)),(28,(sL _ _ _)),(29,(.int _ _)),(30,(.int _ (k:Int)))]/\mm=Q p.U-k/\(txP p=E.b++(p.U.drop k).flatMap fnT)/\(k<=Q p.U)) _ ⟨0,_,_,fR,aA,f_,V,(by exact h1.trans (by rw[ew M];rfl)),M⟩ ?_;rintro hH kk ik ⟨k,E,g2,a9,a5,cL,rfl,g1,hk⟩ f7;refine aw _ cL (λ_=>?_);clear cL;have O:=O.ac a9;refine aj 1 V ?_;refine wr 2 [] 31 31 [] [(31,(decide ((k:Int)<(Q p.U:Int))))] trivial V V λ_=>?_
 refine zd 4 5 (λg9=>?_) λg9=>?_
 ·have zg:=g1;rw[fl_arr (l:=p.U) M,fn_x5]at zg;have zh:=congrArg List.length zg;simp only[a00]at zh;have zx:=zh;simp only[jX,fm_cs,fm_1s,a00,a02,a03]at zx;have p0:=m2 (Y p.U k default) (cr M);have g6:=wf_ok m0 (i:=k) M;have p2:=lc_le (Y p.U k default).B;refine ab ?_;have⟨hx,c9⟩:=Sv.Gg (SR.sv O a5);have⟨hl,hm,ho,d9,ea,a6,a7⟩:=FunT.fx (c9 k);refine cu 2 0 32 33 [] [(33,(aG [_,_,_,_,_,_,_,_,_]))] (Ha_ (Sv.ix (SR.sv O a5)) (Hl_ 1 (qn 53 0 9 (FunT.vw (c9 k)) V V V V) Hn_)) V V λ_=>?_
  refine zn a5 V λg7 it f2=>?_
  refine sgo 1 3 1 0 [] [] (Hr_ 3 2 Hn_) f2 V V λhA ee ax=>?_
  refine ai 2 V ?_;refine wr 3 [] 1 0 [8] [(8,(tX []))] trivial V V λ_=>?_
  refine bQ 1 34 37 [] [(37,(decide ((0:Int)<(Q (Y p.U k _).B:Int))))] (Hr_ 1 2 Hn_) ax V V λ_=>?_
  refine jg (λf H'=> ∃(lx:List UInt8),H'=ee/\aI f [(3,(pT b8 0)),(7,(pT g7 0)),(8,(tX lx)),(28,(S_ a8 p.U b0)),(29,(Q p.U:Int)),(30,(k:Int))]/\(lx=lcT (Y p.U k default).B)) (λdk=>?_) ?_
  ·refine zd 0 0 (λhe=>?_) λhe=>?_
   ·refine bQ 0 38 42 [8] [(8,(tX (([118,97,114,32]++(jn8 (Y p.U k _).B))++[32])))] (Hr_ 1 2 (Hc_ 2 (dg.mK ex _ (HS.call ax) ea M M) (Ha_ (show([118,97,114,32]:List UInt8).length+Q (jn8 (Y p.U k _).B:List UInt8)<=1099511627776 from by(simp only[a00,a02,a03];omega)) (Ha_ (show([118,97,114,32]++(jn8 (Y p.U k _).B):List UInt8).length+Q ([32]:List UInt8)<=1099511627776 from by(simp only[a00,a02,a03];omega)) Hn_)))) ax V V λ_=>?_
    exact dk _ _ ⟨_,V,f_,(by exact(lc_1 M).symm)⟩
   exact dk _ _ ⟨[],V,f_,(by exact(lc_0 M).symm)⟩
  skip;rintro kl ee ⟨lx,rfl,c0,hlx⟩;refine aw _ c0 (λ_=>?_);clear c0;rw[←hlx]at zg zh zx;refine aj 2 V ?_;refine az V ?_;refine cC 6 43 48 [] [(44,(tX (Y p.U k _).pp.b)),(47,(tX (jn8 (Y p.U k _).A))),(48,(tX lx))] (Hr_ 1 2 (Hr_ 3 2 (Hc_ 4 (dg.mK ex _ (HS.call ax.G5) d9 M M) Hn_))) ax V V λ_=>?_
  refine zld ([_,⟨(Y p.U k _).pp.b⟩,_,⟨jn8 (Y p.U k _).A⟩,_,_,_]:List Str) ax V j_ V λjA kt k3 hu e7 f3=>?_
  have⟨h0,bb,bl,fi,hC⟩:=OS.Gi e7 f3 (i:=3) V;refine bH (W:=(((psG b8) E).map Prod.fst)) (bj V V V) V V V (dQ ex 0 _ _ (HS.Gh bl.G5 (i:=1) V) fi M M M) (kb V) ?_;rintro _ g5 ⟨hJ,hX,ba,T,rfl,b7⟩;refine⟨HS.didW T,λgo d3=>?_⟩;replace T:=HS.backOwn bl.G5 (i:=1) V V (λ_ hb=>hb) T;replace T:=HS.lg T bl d3;generalize ({g5 with log:=go}:Heap)=hv at T⊢;replace a6:=(a6.ac bb).ac ba;have d5:=congrArg List.length b7;rw[a00]at d5;refine aQ 2 V ?_;refine ab ?_;refine cS 2 0 51 52 [] [(52,(sL _ _ _))] (Hr_ 1 2 Hn_) T V V λ_=>?_
  refine zc (stmts5_c ex _ 1 _ (HS.Gh T (i:=1) V) a6 M (by exact g6.1) M) ?_;rintro _ iv ⟨hK,h2,b5,a1,rfl,b9⟩;replace a1:=T.bO a1;replace a7:=((a7.ac bb).ac ba).ac b5;have d6:=congrArg List.length b9;rw[a00]at d6;refine ai 2 V ?_;refine ab ?_;refine cS 2 0 54 55 [] [(55,(aG [_,_,_,_,_]))] (Hr_ 1 2 Hn_) a1 V V λ_=>?_
  refine zc (dg.ir ex _ (HS.call a1) M M M a7 M (by exact g6.2) M) ?_;rintro _ i0 ⟨k7,h3,e1,bn,rfl,rfl⟩;replace bn:=HS.G8 a1 V bn;refine zlo ([_,_,_]:List Str) bn V j_ V λj1 kx k4 i1 e8 f4=>?_
  have⟨h5,e3,c5,fk,hD⟩:=OS.Gi e8 f4 (i:=4) V;refine zc (dQ ex 1 _ _ (HS.Gh c5 (i:=1) V) fk M M M) ?_;rintro _ i2 ⟨hQ,h4,e2,bt,rfl,ch⟩;replace bt:=c5.bO bt;have d7:=congrArg List.length ch;rw[a00]at d7;refine ai 1 V ?_;refine ab ?_;refine zlo ([⟨[125]⟩]:List Str) bt V (RL.cs V RL.nl) V λj2 kA k5 i3 fb f5=>?_
  have⟨h7,e5,c7,fq,hF⟩:=OS.Gi fb f5 (i:=5) V;refine zc (dQ ex 0 _ _ (HS.Gh c7 (i:=1) V) fq M M M) ?_;rintro _ i9 ⟨hS,h6,e4,bw,rfl,ci⟩;replace bw:=c7.bO bw;have d8:=congrArg List.length ci;rw[a00]at d8;refine ai 2 V ?_;refine wr 1 [] 30 30 [61] [(30,(.int _ _))] (vA (vi) trivial) V V λ_=>?_
  refine f7 _ _ _ ?_ ⟨k+1,_,_,(fT (fT (fT (fT (fT (fT (fT (fT (a9) bb) ba) b5) e1) e3) e2) e5) e4),(HS.sub bw (a06 _ _)),f_,V,(by rw[zg,ci,ch,b9,b7];simp only[dX,a0b]),M⟩;omega
 have bF:HS _ _ _ [(fP b8 [(S_ E.a E.b E.k)]),E.p] _:=(HS.only a5 (i:=1) V).reflat V;have m1:=E.up (F:=g2);refine ab ?_;refine cS 2 0 62 63 [] [(63,(sL _ _ _))] (Hr_ 1 0 Hn_) bF V V λ_=>?_
 refine ad (oi V V V V (OS.sv m1 bF (i:=1) V)) V V ?_;refine za (tX E.b) ?_;refine ai 1 V ?_;refine ag ⟨.inr V,_,V,_,_,(fT (fT (b2) a3) a9),(HS.G3 bF),V,(by exact(p5_1 a2 (g1.trans (by rw[ew M];exact a0k _))).symm)⟩
end dh
open dh
namespace km
variable (ex:FuncId) {F:Fz} {H:Heap} {R:List Fp}
theorem jb(n:Int){m:Int}(h:0<m):0<=mA n m/\mA n m<m:=oL h
theorem bk_1(e:ExpT):dD [e]=bkE e:=by rw[dD,dD];rfl
theorem bk_1s(s:StmT):cN [s]=bkS s:=by rw[cN,cN];rfl
theorem bk_ne:dD []=0:=by rw[dD]
theorem bk_ns:cN []=0:=by rw[cN]
theorem jF(e:ExpT):(⟨e.j,e.n,⟨e.pp.b⟩,e.op,e.I⟩:ExpT)=e:=by cases e;rfl
theorem nm6{k:Nat}:Q (Y ([⟨[120]⟩,⟨[113]⟩,⟨[97]⟩,⟨[102]⟩,⟨[]⟩,⟨[105,102]⟩]:List Str) k n_).b<=6:=ic e_
theorem nm7{k:Nat}:Q (Y ([⟨[120]⟩,⟨[113]⟩,⟨[97]⟩,⟨[102]⟩,⟨[]⟩,⟨[116,114,97,112]⟩]:List Str) k n_).b<=6:=ic e_
theorem nm8{k:Nat}:Q (Y ([⟨[102]⟩,⟨[103]⟩,⟨[104]⟩,⟨[]⟩,⟨[97]⟩]:List Str) k n_).b<=6:=ic e_
theorem vo{p:Prop}(h:p:=by first|omega|assumption|(show _<6;omega)|(show _<(6:Int);omega)|(show _<5;omega)|(show _<(5:Int);omega)|(dsimp only;omega)|exact E|(simp only[a00,a02,a03,a0u];omega)):p:=h
theorem a_a{p:Prop}(h:p:=by(simp only[iA,gt,gh,gg,bk_1,bk_1s,bk_ne,bk_ns,jF,a0o,a02,a03,a00,a0u];omega)):p:=h
theorem mexpr_c_aux: ∀(fuel:Nat) {aA} {a7:Nat} (e:ExpT) (ar:Int) (at_:Int) {F} {H:Heap} {R:List Fp} (hs:Hb H F H [] R) (c4:in64 e.j) (c5:in64 e.n) (c6:in64 e.op) (E:Sr F aA e.I a7) (k6:in64 ar) (k5:in64 at_) (hn:bkE e<=1000000000),bkE e<fuel->kKt ex 19 [(aG [e.j,e.n,(tX e.pp.b),e.op,(S_ aA e.I a7)]),ar,at_] H λv H'=> ∃(x:ExpT),∃ba,∃(b8:Nat),∃F',F.le F'/\Hb H F' H' [] R/\v= .agg ⟨[iI x.j,iI x.n,tX x.pp.b,iI x.op,sL ba (Q x.I) b8]⟩/\in64 x.j/\in64 x.n/\in64 x.op/\Sr F' ba x.I b8/\(bkE x<=bkE e+60):=by
 intro fuel;induction fuel with
 |zero=>intros;omega
 |succ fuel ih=>
 intro aA a7 e ar at_ F H R hs c4 c5 c6 E k6 k5 hn mp;have k3:=bk_e e;have k4:=j9 e.I;have p1:=jb ar (m:=9) e_;have p2:=jb (ar.tdiv 9) (m:=8) e_;have p3:=jb at_ (m:=3) e_;have p4:=jb at_ (m:=6) e_;have p5:=jb (ar.tdiv 9) (m:=40) e_;refine ay Tryz.func19 V V (aj 1 V (ab (bd (aW hs V V) V V ?_)));rintro _ H2 _ ⟨b1,rfl,f5,_⟩;refine zn f5 V λb3 H4 U=>ai 3 V ?_
 have j1:=aF ar 9;refine wr 3 [(1,.o (.int _ _))] 8 9 [] [(9,(.int _ _))] (vA (ga.aE ex ar 9 H4 (vo)) trivial) V V λ_=>wr 1 [] 10 11 [] [(10,(((ah ar 9:Nat):Int)==0))] trivial V V λ_=>zI 0 1 (λc8=>?_) λc8=>?_
 ·have k0:in64 ar->in64 (Int.tdiv ar 9):=λh=>vq h e_
  have hg:=aF (Int.tdiv ar 9) 8;refine sgr 3 12 16 [] [] (Ha_ (vA (show(9:Int)≠0 from by decide) (vq (vo) e_)) (Hc_ 2 (ga.aE ex _ 8 H4 (vo)) (Ha_ (vi (vo)) (Hr_ 5 0 Hn_)))) U V V λhm hT d1=>sgr 1 79 79 [] [] (Hr_ 0 0 (Hr_ 1 1 Hn_)) d1 V V λho hV bl=>ag ⟨.inr V,_,(rC V (bV V V (i_ bl V) V) rN),(⟨_,e.n,⟨e.pp.b⟩,_,e.I⟩:ExpT),_,_,_,fR,(HS.G3 bl),V,(vo),(vo),(vo),E,(by(simp only[iA];omega))⟩
 refine wr 1 [] 17 18 [] [(17,(((ah ar 9:Nat):Int)==1))] trivial V V λ_=>zI 0 1 (λfk=>?_) λfk=>?_
 ·have hh:=aF at_ 3;refine sgr 3 19 21 [] [] (Hc_ 1 (ga.aE ex at_ 3 H4 (vo)) (Hr_ 3 0 Hn_)) U V V λhp hW d2=>sgr 1 79 79 [] [] (Hr_ 0 0 (Hr_ 1 1 Hn_)) d2 V V λhq hX bn=>ag ⟨.inr V,_,(rC V (bV V V (i_ bn V) V) rN),(⟨_,((ah at_ 3:Nat):Int),⟨e.pp.b⟩,_,e.I⟩:ExpT),_,_,_,fR,(HS.G3 bn),V,(vo),(vo),(vo),E,(by(simp only[iA];omega))⟩
 refine wr 1 [] 22 23 [] [(22,(((ah ar 9:Nat):Int)==2))] trivial V V λ_=>zI 0 1 (λfq=>?_) λfq=>?_
 ·refine ab (zlo ([_,_,_,_,_,_]:List Str) U V j_ V λi3 j2 kl e5 bf a4=>?_);have hj:=aF at_ 6;have⟨he,et⟩:=Sv.Gg (OS.sv bf a4 (i:=2) V);refine sgo 6 1 25 29 [] [] (Hc_ 2 (ga.aE ex at_ 6 e5 (vo)) (Ha_ (Sv.ix (OS.sv bf a4 (i:=2) V) (vo) (show((ah at_ 6:Nat):Int)<(6:Int) from by exact vo)) (Hl_ 4 (ql 9 0 (vS (et (ah at_ 6)) (show ah at_ 6<6 from by exact vo)) V V) (Hr_ 6 0 Hn_)))) a4 V V λhr h0 d3=>ai 3 V (sgr 1 79 79 [] [] (Hr_ 0 0 (Hr_ 1 1 Hn_)) d3 V V λht h1 bt=>ag ⟨.inr V,_,(rC V (bV V V (i_ bt V) V) rN),(⟨_,e.n,⟨(Y ([_,_,_,_,_,_]:List Str) _ _).b⟩,_,e.I⟩:ExpT),_,_,_,fR,(HS.G3 bt),V,(vo),(vo),(vo),E,(by(simp only[iA,a0u];have:=nm6 (k:=ah at_ 6);omega))⟩)
 refine wr 1 [] 30 31 [] [(30,(((ah ar 9:Nat):Int)==3))] trivial V V λ_=>zI 0 1 (λfu=>?_) λfu=>?_
 ·have hI:in64 ar->in64 (Int.tdiv ar 9):=λh=>vq h e_
  have hk:=aF (Int.tdiv ar 9) 40;refine sgr 3 32 35 [] [] (Ha_ (vA (show(9:Int)≠0 from by decide) (vq (vo) e_)) (Hc_ 2 (ga.aE ex _ 40 H4 (vo)) (Hr_ 4 0 Hn_))) U V V λhu h2 d4=>sgr 1 79 79 [] [] (Hr_ 0 0 (Hr_ 1 1 Hn_)) d4 V V λhv h3 bw=>ag ⟨.inr V,_,(rC V (bV V V (i_ bw V) V) rN),(⟨_,e.n,⟨e.pp.b⟩,((ah _ 40:Nat):Int),e.I⟩:ExpT),_,_,_,fR,(HS.G3 bw),V,(vo),(vo),(vo),E,(by(simp only[iA];omega))⟩
 refine wr 1 [] 36 37 [] [(36,(((ah ar 9:Nat):Int)==4))] trivial V V λ_=>zI 0 1 (λf1=>?_) λf1=>?_
 ·refine ab (zlo _ U V RL.nl V λi9 kd kn h4 c7 a5=>cS 2 1 39 40 [] [(40,(sL _ _ _))] (Hr_ 2 0 Hn_) a5 V V λ_=>zao 2 c7 a5 (SR.sv E a5) V V V M λfb f6 gm h5 a1 d5=>?_);have a1:OZ F fb e.I f6 gm:=a1;refine cu 1 4 42 42 [] [(42,(aG [_,_,_,_,_]))] Hn_ V V λ_=>zlo ([(⟨1,0,_,0,([]:List ExpT)⟩:ExpT)]:List ExpT) d5 V (RL.cs (ExpT.mq SR.nil) RL.nl) V λjw ki kt h6 c9 bF=>zao 2 a1 bF (OS.sv c9 bF (i:=3) V) V V V M λfd f7 kx h7 dk d6=>sgo 2 7 45 45 [] [] (Hr_ 8 0 Hn_) d6 V V λhw h8 d7=>ai 3 V (sgr 1 79 79 [] [] (Hr_ 0 0 (Hr_ 1 1 Hn_)) d7 V V λhx h9 d8=>?_)
  have⟨hQ,c0,b0,dt,hG⟩:=OS.Gi dk d8 (i:=2) V;refine ag ⟨.inr V,_,(rC V (bV V V (i_ b0 V) V) rN),(⟨_,e.n,⟨e.pp.b⟩,_,_⟩:ExpT),fd,f7,_,(c0),(HS.G3 b0),V,(vo),(vo),(vo),dt,a_a⟩
 refine wr 1 [] 46 47 [] [(46,(((ah ar 9:Nat):Int)==5))] trivial V V λ_=>zI 0 1 (λf2=>?_) λf2=>?_
 ·refine sgr 3 48 48 [] [] (Hr_ 1 0 Hn_) U V V λhy ia d9=>sgr 1 79 79 [] [] (Hr_ 0 0 (Hr_ 1 1 Hn_)) d9 V V λhz ik b2=>ag ⟨.inr V,_,(rC V (bV V V (i_ b2 V) V) rN),(⟨_,e.n,⟨e.pp.b⟩,_,([]:List ExpT)⟩:ExpT),_,0,_,fR,(HS.G3 b2),V,(vo),(vo),(vo),(SR.nil:SR F _ _),a_a⟩
 refine wr 1 [] 49 50 [] [(49,(((ah ar 9:Nat):Int)==6))] trivial V V λ_=>zI 1 3 (λf3=>?_) λf3=>?_
 ·refine bQ 1 51 54 [] [(54,(decide ((0:Int)<(Q e.I:Int))))] (Hr_ 1 0 Hn_) U V V λ_=>zd 1 3 (λf4=>?_) λf4=>?_
  ·have hl:=aF at_ (Q e.I);refine bQ 2 55 59 [7] [(7,(.int _ _))] (Hr_ 2 0 (Hc_ 4 (ga.aE ex at_ _ H4 (vo)) Hn_)) U V V λ_=>ab (zlo _ U V RL.nl V λjA kk kA it dn a6=>cS 2 1 61 62 [] [(62,(sL _ _ _))] (Hr_ 2 0 Hn_) a6 V V λ_=>zao 2 dn a6 (SR.sv E a6) V V V M λal an go iv T ea=>?_)
   have T:OZ F al e.I an go:=T;refine sgo 2 4 64 64 [] [] (Hr_ 5 0 Hn_) ea V V λhA i0 Z=>ai 1 V (az V ?_)
   have⟨hf,b7⟩:=Sv.Gg (OS.sv T Z (i:=2) V);have⟨g1,g2,g3,cL⟩:=ExpT.fx (b7 (ah at_ (Q e.I)));have hJ:in64 ar->in64 (Int.tdiv ar 9):=λh=>vq h e_
   have hK:in64 at_->in64 (Int.tdiv at_ 3):=λh=>vq h e_
   refine cC 12 65 76 [] [(66,(S_ al e.I an)),(67,(.int _ _)),(72,(aG [_,_,_,_,_])),(74,(.int _ (Int.tdiv ar 9))),(76,(.int _ (Int.tdiv at_ 3)))] (Hr_ 1 0 (Hr_ 4 0 (Ha_ (Sv.ix (OS.sv T Z (i:=2) V) (vo) (vo)) (Hl_ 7 (qn 46 0 5 (hc0 (ExpT.vw (b7 (ah at_ _)) (vo))) V V V V) (Ha_ (vA (show(9:Int)≠0 from by decide) (vq (vo) e_)) (Ha_ (vA (show(3:Int)≠0 from by decide) (vq (vo) e_)) Hn_)))))) Z V V λ_=>bH (bj V V V) V V V (ih _ _ _ (HS.call Z.G5) (vo) (vo) (vo) cL (vo) (vo) (by(have:=bkEs_at (l:=e.I) (i:=ah at_ (Q e.I)) M;omega)) (by(have:=bkEs_at (l:=e.I) (i:=ah at_ (Q e.I)) M;omega))) (⟨.inl V,.inl V,.inl V,.inl V,.inl V,.inl V,.inl V,.inl V,.inl V,.inr trivial,.inr a0g,l_⟩) ?_
   rintro _ e6 ⟨b9,fi,f9,hS,bb,O,rfl,e1,e2,e3,a8,hF⟩;refine⟨Wr.did O.log,λez ch=>?_⟩;replace O:=HS.G8 Z.G5 V O;replace O:=HS.lg O Z ch;generalize ({e6 with log:=ez}:Heap)=g5 at O⊢;have T:=T.ac bb;refine wfv (v:=(.pointer (some ⟨_,sO (sL al _ an)+(ah at_ _) *Rp.sz ExpT,_⟩))) (dw (j:=((ah at_ _:Nat):Int)) V V V V (OS.sv T O.G5 (i:=2) V) (vo) (vo)) (ef (jS (q:=2) b9 T O.G5 V V V V V V V V (aT (x:=n_) (vo)) V (fX (ExpT.mkr ⟨_,_,V,by exact vo,by exact vo,by exact vo,a8⟩))) V (by rintro _ _ g0 ⟨a2,_,hwr⟩;exact dl V V (Wr.did hwr)) (kb V) ?_);rintro _ e7 g0 ⟨a2,ax,_⟩ e0 ci;replace ax:=HS.lg ax O ci;generalize ({e7 with log:=e0}:Heap)=g6 at ax⊢;have g4:=OS.len' a2;refine aQ 3 V (sgr 1 79 79 [] [] (Hr_ 0 0 (Hr_ 1 1 Hn_)) ax V V λhB e8 ee=>?_);have⟨e4,c3,em,a3,hH⟩:=OS.Gi a2 ee (i:=2) V;replace a3:=SR.norm a3;have co:HS _ _ _ [_,_,_] _:=em;have b4:Hb H e4 e8 [(fP b1 [e.j,e.n,(tX e.pp.b),e.op,(sL al (Q (e.I.set (ah at_ (Q e.I)) b9)) an)]),(fP b3 [e.j,e.n,(tX e.pp.b),e.op,(sL al (Q (e.I.set (ah at_ (Q e.I)) b9)) an)]),[]] R:=by simpa only[a0u,a0o] using co
   refine ag ⟨.inr V,_,(rC V (bV V V (i_ b4 V) V) rN),(⟨_,e.n,⟨e.pp.b⟩,_,_⟩:ExpT),al,an,_,(fT (bb) c3),(HS.G3 b4),V,(vo),(vo),(vo),a3,(by(simp only[iA,a0u];have:=bkEs_set (k:=60) (show ah at_ (Q e.I)<(Q e.I) by omega) X;omega))⟩
  refine sgr 1 79 79 [] [] (Hr_ 0 0 (Hr_ 1 1 Hn_)) U V V λhC i1 b5=>ag ⟨.inr V,_,(rC V (bV V V (i_ b5 V) V) rN),e,_,_,_,fR,(HS.G3 b5),V,(vo),(vo),(vo),E,M⟩
 refine sgr 1 79 79 [] [] (Hr_ 0 0 (Hr_ 1 1 Hn_)) U V V λhD i2 b6=>ag ⟨.inr V,_,(rC V (bV V V (i_ b6 V) V) rN),e,_,_,_,fR,(HS.G3 b6),V,(vo),(vo),(vo),E,M⟩
theorem oT{E T}(e:ExpT)(ar:Int)(at_:Int)(hs:Hb H F H [] R)(Z:in64 e.j)(al:in64 e.n)(an:in64 e.op)(ax:Sr F E e.I T)(a1:in64 ar)(aA:in64 at_)(hn:bkE e<=1000000000):kKt ex 19 [(aG [e.j,e.n,(tX e.pp.b),e.op,(S_ E e.I T)]),ar,at_] H λv H'=> ∃(x:ExpT),∃O,∃(U:Nat),∃F',F.le F'/\Hb H F' H' [] R/\v= .agg ⟨[iI x.j,iI x.n,tX x.pp.b,iI x.op,sL O (Q x.I) U]⟩/\in64 x.j/\in64 x.n/\in64 x.op/\Sr F' O x.I U/\(bkE x<=bkE e+60):=
 mexpr_c_aux ex (bkE e+1) e ar at_ hs Z al an ax a1 aA hn (a0y _)
theorem a_b{p:Prop}(h:p:=by(simp only[gt,jF];omega)):p:=h
theorem mstmt_c_aux: ∀(fuel:Nat) {a3} {a7:Nat} {bn} {bF:Nat} {a2} {a6:Nat} {a1} {a5:Nat} {a8} {a9:Nat} (s:StmT) (ar:Int) (at_:Int) {F} {H:Heap} {R:List Fp} (hs:Hb H F H [] R) (kk:in64 s.j) (kl:in64 s.n) (kn:in64 s.G2.j) (kt:in64 s.G2.n) (kx:in64 s.G2.op) (Z:Sr F a8 s.G2.I a9) (kA:in64 s.val.j) (hu:in64 s.val.n) (hv:in64 s.val.op) (E:Sr F a1 s.val.I a5) (T:Sr F a2 s.y a6) (U:Sr F bn s.G4 bF) (O:Sr F a3 s.G7 a7) (sM:in64 ar) (sJ:in64 at_) (hn:bkS s<=1000000000),bkS s<fuel->kKt ex 20 [(aG [s.j,(tX s.pp.b),(tX s.K.b),s.n,s.G2.j,s.G2.n,(tX s.G2.pp.b),s.G2.op,(S_ a8 s.G2.I a9),s.val.j,s.val.n,(tX s.val.pp.b),s.val.op,(S_ a1 s.val.I a5),(S_ a2 s.y a6),(S_ bn s.G4 bF),(S_ a3 s.G7 a7)]),ar,at_] H λv H'=> ∃(x:StmT),∃f3,∃(hg:Nat),∃et,∃(e7:Nat),∃ez,∃(e8:Nat),∃e0,∃(fb:Nat),∃e1,∃(fd:Nat),∃F',F.le F'/\Hb H F' H' [] R/\v= .agg ⟨[iI x.j,tX x.pp.b,tX x.K.b,iI x.n,iI x.G2.j,iI x.G2.n,tX x.G2.pp.b,iI x.G2.op,sL f3 x.G2.I.length hg,iI x.val.j,iI x.val.n,tX x.val.pp.b,iI x.val.op,sL et x.val.I.length e7,sL ez x.y.length e8,sL e0 x.G4.length fb,sL e1 x.G7.length fd]⟩/\in64 x.j/\in64 x.n/\in64 x.G2.j/\in64 x.G2.n/\in64 x.G2.op/\in64 x.val.j/\in64 x.val.n/\in64 x.val.op/\Sr F' f3 x.G2.I hg/\Sr F' et x.val.I e7/\Sr F' ez x.y e8/\Sr F' e0 x.G4 fb/\Sr F' e1 x.G7 fd/\(bkS x<=bkS s+120):=by
 intro fuel;induction fuel with
 |zero=>intros;omega
 |succ fuel ih=>
 intro a3 a7 bn bF a2 a6 a1 a5 a8 a9 s ar at_ F H R hs kk kl kn kt kx Z kA hu hv E T U O sM sJ hn tq;have sb:=bk_s s;have sc:=gf s.G4;have sd:=gf s.G7;have se:=j9 s.y;have p1:=jb ar (m:=13) e_;have p2:=jb (ar.tdiv 13) (m:=10) e_;have p3:=jb at_ (m:=3) e_;have p4:=jb at_ (m:=6) e_;have p5:=jb at_ (m:=5) e_;refine ay Tryz.func20 V V (aj 1 V (ab (bd (aW hs V V) V V ?_)));rintro _ H2 _ ⟨b1,rfl,oo,_⟩;refine zn oo V λb3 H4 an=>ai 3 V ?_
 have rI:=aF ar 13;refine wr 3 [(1,.o (.int _ _))] 8 9 [] [(9,(.int _ _))] (vA (ga.aE ex ar 13 H4 (vo)) trivial) V V λ_=>wr 1 [] 10 11 [] [(10,(((ah ar 13:Nat):Int)==0))] trivial V V λ_=>zI 0 1 (λc8=>?_) λc8=>?_
 ·have r8:in64 ar->in64 (Int.tdiv ar 13):=λh=>vq h e_
  have qo:=aF (Int.tdiv ar 13) 10;refine sgr 3 12 16 [] [] (Ha_ (vA (show(13:Int)≠0 from by decide) (vq (vo) e_)) (Hc_ 2 (ga.aE ex _ 10 H4 (vo)) (Ha_ (vi (vo)) (Hr_ 5 0 Hn_)))) an V V λqt qX h9=>sgr 1 124 124 [] [] (Hr_ 0 0 (Hr_ 1 1 Hn_)) h9 V V λqu qY gm=>ag ⟨.inr V,_,(rC V (bV V V (i_ gm V) V) rN),(⟨_,⟨s.pp.b⟩,⟨s.K.b⟩,s.n,(⟨_,_,⟨s.G2.pp.b⟩,_,_⟩:ExpT),(⟨_,_,⟨s.val.pp.b⟩,_,_⟩:ExpT),s.y,s.G4,s.G7⟩:StmT),_,_,_,_,_,_,_,_,_,_,_,fR,(HS.G3 gm),V,(vo),(vo),(vo),(vo),(vo),(vo),(vo),(vo),Z,E,T,U,O,a_b⟩
 refine wr 1 [] 17 18 [] [(17,(((ah ar 13:Nat):Int)==1))] trivial V V λ_=>zI 0 1 (λm1=>?_) λm1=>?_
 ·refine ab (zlo ([_,_,_,_,_,_]:List Str) an V j_ V λry rK rV lz f6 d5=>?_);have qp:=aF at_ 6;have⟨qj,k0⟩:=Sv.Gg (OS.sv f6 d5 (i:=2) V);refine sgo 6 1 20 24 [] [] (Hc_ 2 (ga.aE ex at_ 6 lz (vo)) (Ha_ (Sv.ix (OS.sv f6 d5 (i:=2) V) (vo) (show((ah at_ 6:Nat):Int)<(6:Int) from by exact vo)) (Hl_ 4 (ql 9 0 (vS (k0 (ah at_ 6)) (show ah at_ 6<6 from by exact vo)) V V) (Hr_ 6 0 Hn_)))) d5 V V λqv qZ ia=>ai 3 V (sgr 1 124 124 [] [] (Hr_ 0 0 (Hr_ 1 1 Hn_)) ia V V λqw q0 g0=>ag ⟨.inr V,_,(rC V (bV V V (i_ g0 V) V) rN),(⟨_,⟨(([_,_,_,_,_,_]:List Str).getD _ _).b⟩,⟨s.K.b⟩,s.n,(⟨_,_,⟨s.G2.pp.b⟩,_,_⟩:ExpT),(⟨_,_,⟨s.val.pp.b⟩,_,_⟩:ExpT),s.y,s.G4,s.G7⟩:StmT),_,_,_,_,_,_,_,_,_,_,_,fR,(HS.G3 g0),V,(vo),(vo),(vo),(vo),(vo),(vo),(vo),(vo),Z,E,T,U,O,(by(simp only[gt,jF];have:=nm7 (k:=ah at_ 6);have:=nm8 (k:=ah at_ 5);omega))⟩)
 refine wr 1 [] 25 26 [] [(25,(((ah ar 13:Nat):Int)==2))] trivial V V λ_=>zI 0 1 (λm2=>?_) λm2=>?_
 ·refine ab (zlo ([_,_,_,_,_]:List Str) an V j_ V λrz rL rW l3 f7 d6=>?_);have qq:=aF at_ 5;have⟨qk,k3⟩:=Sv.Gg (OS.sv f7 d6 (i:=2) V);refine sgo 6 1 28 32 [] [] (Hc_ 2 (ga.aE ex at_ 5 l3 (vo)) (Ha_ (Sv.ix (OS.sv f7 d6 (i:=2) V) (vo) (show((ah at_ 5:Nat):Int)<(5:Int) from by exact vo)) (Hl_ 4 (ql 9 0 (vS (k3 (ah at_ 5)) (show ah at_ 5<5 from by exact vo)) V V) (Hr_ 6 0 Hn_)))) d6 V V λqx q1 ik=>ai 3 V (sgr 1 124 124 [] [] (Hr_ 0 0 (Hr_ 1 1 Hn_)) ik V V λqy q2 g1=>ag ⟨.inr V,_,(rC V (bV V V (i_ g1 V) V) rN),(⟨_,⟨s.pp.b⟩,⟨(([_,_,_,_,_]:List Str).getD _ _).b⟩,s.n,(⟨_,_,⟨s.G2.pp.b⟩,_,_⟩:ExpT),(⟨_,_,⟨s.val.pp.b⟩,_,_⟩:ExpT),s.y,s.G4,s.G7⟩:StmT),_,_,_,_,_,_,_,_,_,_,_,fR,(HS.G3 g1),V,(vo),(vo),(vo),(vo),(vo),(vo),(vo),(vo),Z,E,T,U,O,(by(simp only[gt,jF];have:=nm7 (k:=ah at_ 6);have:=nm8 (k:=ah at_ 5);omega))⟩)
 refine wr 1 [] 33 34 [] [(33,(((ah ar 13:Nat):Int)==3))] trivial V V λ_=>zI 0 1 (λm3=>?_) λm3=>?_
 ·refine ab (zlo ([0,1,_,_,_]:List Int) an V (RL.cs ⟨V,by exact vo⟩ (RL.cs ⟨V,by exact vo⟩ (RL.cs ⟨V,by exact vo⟩ (RL.cs ⟨V,by exact vo⟩ (RL.cs ⟨V,by exact vo⟩ RL.nl))))) V λrA rM rX l5 f9 d7=>?_);have qr:=aF at_ 5;have⟨qm,hf⟩:=Sv.Gg (OS.sv f9 d7 (i:=2) V);have rJ:=fI (hf (ah at_ 5));refine sgo 6 1 36 40 [] [] (Hc_ 2 (ga.aE ex at_ 5 l5 (vo)) (Ha_ (Sv.ix (OS.sv f9 d7 (i:=2) V) (vo) (show((ah at_ 5:Nat):Int)<(5:Int) from by exact vo)) (Hl_ 4 (ql 3 0 (vI (hf (ah at_ 5)) (show ah at_ 5<5 from by exact vo)) V V) (Hr_ 6 0 Hn_)))) d7 V V λqz q3 it=>ai 3 V (sgr 1 124 124 [] [] (Hr_ 0 0 (Hr_ 1 1 Hn_)) it V V λqA q4 g2=>ag ⟨.inr V,_,(rC V (bV V V (i_ g2 V) V) rN),(⟨_,⟨s.pp.b⟩,⟨s.K.b⟩,_,(⟨_,_,⟨s.G2.pp.b⟩,_,_⟩:ExpT),(⟨_,_,⟨s.val.pp.b⟩,_,_⟩:ExpT),s.y,s.G4,s.G7⟩:StmT),_,_,_,_,_,_,_,_,_,_,_,fR,(HS.G3 g2),V,(vo),(vo),(vo),(vo),(vo),(vo),(vo),(vo),Z,E,T,U,O,a_b⟩)
 refine wr 1 [] 41 42 [] [(41,(((ah ar 13:Nat):Int)==4))] trivial V V λ_=>zI 0 1 (λm6=>?_) λm6=>?_
 ·refine ab ?_;have qR:in64 ar->in64 (Int.tdiv ar 13):=λh=>vq h e_
  refine cS 5 0 43 47 [] [(44,(aG [_,_,_,_,_])),(46,(.int _ (Int.tdiv ar 13))),(47,(.int _ at_))] (Hr_ 1 0 (Ha_ (vA (show(13:Int)≠0 from by decide) (vq (vo) e_)) Hn_)) an V V λ_=>zc (oT ex _ (Int.tdiv ar 13) at_ (HS.call an) (vo) (vo) (vo) Z (vo) (vo) M) ?_
  rintro _ q5 ⟨r9,mx,o6,qT,b7,d8,rfl,k7,k8,k9,fi,qL⟩;replace d8:=HS.G8 an V d8;have⟨E,T,U,O⟩:=M4 b7 E T U O;refine sgo 2 6 49 49 [] [] (Hr_ 7 0 Hn_) d8 V V λqB q6 iv=>ai 3 V (sgr 1 124 124 [] [] (Hr_ 0 0 (Hr_ 1 1 Hn_)) iv V V λqC q7 g3=>ag ⟨.inr V,_,(rC V (bV V V (i_ g3 V) V) rN),(⟨s.j,⟨s.pp.b⟩,⟨s.K.b⟩,s.n,_,(⟨_,_,⟨s.val.pp.b⟩,_,_⟩:ExpT),s.y,s.G4,s.G7⟩:StmT),_,_,_,_,_,_,_,_,_,_,_,(b7),(HS.G3 g3),V,(vo),(vo),(vo),(vo),(vo),(vo),(vo),(vo),fi,E,T,U,O,a_b⟩)
 refine wr 1 [] 50 51 [] [(50,(((ah ar 13:Nat):Int)==5))] trivial V V λ_=>zI 0 1 (λc48=>?_) λc48=>?_
 ·refine ab ?_;have qS:in64 ar->in64 (Int.tdiv ar 13):=λh=>vq h e_
  refine cS 5 0 52 56 [] [(53,(aG [_,_,_,_,_])),(55,(.int _ (Int.tdiv ar 13))),(56,(.int _ at_))] (Hr_ 1 0 (Ha_ (vA (show(13:Int)≠0 from by decide) (vq (vo) e_)) Hn_)) an V V λ_=>zc (oT ex _ (Int.tdiv ar 13) at_ (HS.call an) (vo) (vo) (vo) E (vo) (vo) M) ?_
  rintro _ q8 ⟨sa,m0,o7,qU,b8,d9,rfl,ll,lr,lx,fk,qM⟩;replace d9:=HS.G8 an V d9;have⟨T,U,O,Z⟩:=M4 b8 T U O Z;refine sgo 2 6 58 58 [] [] (Hr_ 7 0 Hn_) d9 V V λqD q9 i0=>ai 3 V (sgr 1 124 124 [] [] (Hr_ 0 0 (Hr_ 1 1 Hn_)) i0 V V λqE ra g4=>ag ⟨.inr V,_,(rC V (bV V V (i_ g4 V) V) rN),(⟨s.j,⟨s.pp.b⟩,⟨s.K.b⟩,s.n,(⟨_,_,⟨s.G2.pp.b⟩,_,_⟩:ExpT),_,s.y,s.G4,s.G7⟩:StmT),_,_,_,_,_,_,_,_,_,_,_,(b8),(HS.G3 g4),V,(vo),(vo),(vo),(vo),(vo),(vo),(vo),(vo),Z,fk,T,U,O,a_b⟩)
 refine wr 1 [] 59 60 [] [(59,(((ah ar 13:Nat):Int)==6))] trivial V V λ_=>zI 0 1 (λm7=>?_) λm7=>?_
 ·refine ab (zlo _ an V RL.nl V λrB rO rY rb hW ea=>cS 2 1 62 63 [] [(63,(sL _ _ _))] (Hr_ 2 0 Hn_) ea V V λ_=>zao 2 hW ea (SR.sv T ea) V V V M λmf ox o8 rc d1 i1=>?_);have d1:OZ F mf s.y ox o8:=d1;refine cu 1 4 65 65 [] [(65,(aG [_,_,_,_,_]))] Hn_ V V λ_=>zlo ([(⟨1,0,_,0,([]:List ExpT)⟩:ExpT)]:List ExpT) i1 V (RL.cs (ExpT.mq SR.nil) RL.nl) V λrD rP r0 re hX g5=>zao 2 d1 g5 (OS.sv hX g5 (i:=3) V) V V V M λmg o0 r1 rf h0 i2=>sgo 2 7 68 68 [] [] (Hr_ 8 0 Hn_) i2 V V λqF rg i3=>ai 3 V (sgr 1 124 124 [] [] (Hr_ 0 0 (Hr_ 1 1 Hn_)) i3 V V λqG rh i9=>?_)
  have⟨qV,b9,g6,h7,qN⟩:=OS.Gi h0 i9 (i:=2) V;have⟨E,U,O,Z⟩:=M4 b9 E U O Z;refine ag ⟨.inr V,_,(rC V (bV V V (i_ g6 V) V) rN),(⟨_,⟨s.pp.b⟩,⟨s.K.b⟩,s.n,(⟨_,_,⟨s.G2.pp.b⟩,_,_⟩:ExpT),(⟨_,_,⟨s.val.pp.b⟩,_,_⟩:ExpT),_,s.G4,s.G7⟩:StmT),_,_,_,_,mg,o0,_,_,_,_,_,(b9),(HS.G3 g6),V,(vo),(vo),(vo),(vo),(vo),(vo),(vo),(vo),Z,E,h7,U,O,a_a⟩
 refine wr 1 [] 69 70 [] [(69,(((ah ar 13:Nat):Int)==7))] trivial V V λ_=>zI 0 1 (λm9=>?_) λm9=>?_
 ·refine sgr 3 71 71 [] [] (Hr_ 1 0 Hn_) an V V λqH ri jw=>sgr 1 124 124 [] [] (Hr_ 0 0 (Hr_ 1 1 Hn_)) jw V V λqI rj g7=>ag ⟨.inr V,_,(rC V (bV V V (i_ g7 V) V) rN),(⟨_,⟨s.pp.b⟩,⟨s.K.b⟩,s.n,(⟨_,_,⟨s.G2.pp.b⟩,_,_⟩:ExpT),(⟨_,_,⟨s.val.pp.b⟩,_,_⟩:ExpT),([]:List ExpT),s.G4,s.G7⟩:StmT),_,_,_,_,_,0,_,_,_,_,_,fR,(HS.G3 g7),V,(vo),(vo),(vo),(vo),(vo),(vo),(vo),(vo),Z,E,(SR.nil:SR F _ _),U,O,a_a⟩
 refine wr 1 [] 72 73 [] [(72,(((ah ar 13:Nat):Int)==8))] trivial V V λ_=>zI 0 1 (λnc=>?_) λnc=>?_
 ·refine ab (zlo _ an V RL.nl V λrE rQ r2 rk h1 ee=>cS 2 1 75 76 [] [(76,(sL _ _ _))] (Hr_ 2 0 Hn_) ee V V λ_=>zao 2 h1 ee (SR.sv O ee) V V V M λmm o1 o9 rl d2 jA=>?_);have d2:OZ F mm s.G7 o1 o9:=d2;refine cu 1 4 78 78 [] [(78,(aG [_,_,_,_,_,_,_,_,_,_,_,_,_,_,_,_,_]))] Hn_ V V λ_=>zlo ([(⟨7,_,_,0,(⟨0,0,_,0,([]:List ExpT)⟩:ExpT),(⟨0,0,_,0,([]:List ExpT)⟩:ExpT),([]:List ExpT),([]:List StmT),([]:List StmT)⟩:StmT)]:List StmT) jA V (RL.cs (StmT.mq SR.nil SR.nil SR.nil SR.nil SR.nil) RL.nl) V λrF rR r3 rm h2 g8=>zao 2 d2 g8 (OS.sv h2 g8 (i:=3) V) V V V M λmp o2 r4 rn h3 j1=>sgo 2 7 81 81 [] [] (Hr_ 8 0 Hn_) j1 V V λqJ rq j2=>ai 3 V (sgr 1 124 124 [] [] (Hr_ 0 0 (Hr_ 1 1 Hn_)) j2 V V λqK rr kd=>?_)
  have⟨qW,ch,g9,h8,qO⟩:=OS.Gi h3 kd (i:=2) V;have⟨E,T,U,Z⟩:=M4 ch E T U Z;refine ag ⟨.inr V,_,(rC V (bV V V (i_ g9 V) V) rN),(⟨s.j,⟨s.pp.b⟩,⟨s.K.b⟩,s.n,(⟨_,_,⟨s.G2.pp.b⟩,_,_⟩:ExpT),(⟨_,_,⟨s.val.pp.b⟩,_,_⟩:ExpT),s.y,s.G4,_⟩:StmT),_,_,_,_,_,_,_,_,mp,o2,_,(ch),(HS.G3 g9),V,(vo),(vo),(vo),(vo),(vo),(vo),(vo),(vo),Z,E,T,U,h8,a_a⟩
 refine wr 1 [] 82 83 [] [(82,(((ah ar 13:Nat):Int)==9))] trivial V V λ_=>zI 0 1 (λnn=>?_) λnn=>?_
 ·refine ab (zlo _ an V RL.nl V λrG rS r5 rv h4 em=>cS 2 1 85 86 [] [(86,(sL _ _ _))] (Hr_ 2 0 Hn_) em V V λ_=>zao 2 h4 em (SR.sv U em) V V V M λms o3 pi ma d3 ki=>?_);have d3:OZ F ms s.G4 o3 pi:=d3;have qs:=aF at_ 3;refine cu 3 4 88 90 [] [(90,(aG [_,_,_,_,_,_,_,_,_,_,_,_,_,_,_,_,_]))] (Hc_ 5 (ga.aE ex at_ 3 ma (vo)) Hn_) V V λ_=>zlo ([(⟨7,_,_,((ah at_ 3:Nat):Int),(⟨0,0,_,0,([]:List ExpT)⟩:ExpT),(⟨0,0,_,0,([]:List ExpT)⟩:ExpT),([]:List ExpT),([]:List StmT),([]:List StmT)⟩:StmT)]:List StmT) ki V (RL.cs (StmT.mq SR.nil SR.nil SR.nil SR.nil SR.nil) RL.nl) V λrH rU r6 rx h5 he=>zao 2 d3 he (OS.sv h5 he (i:=3) V) V V V M λmv o4 r7 p7 h6 hm=>sgo 2 9 93 93 [] [] (Hr_ 10 0 Hn_) hm V V λpv p8 ho=>ai 3 V (sgr 1 124 124 [] [] (Hr_ 0 0 (Hr_ 1 1 Hn_)) ho V V λpx p9 hp=>?_)
  have⟨p6,bt,e2,hl,pX⟩:=OS.Gi h6 hp (i:=2) V;have⟨E,T,O,Z⟩:=M4 bt E T O Z;refine ag ⟨.inr V,_,(rC V (bV V V (i_ e2 V) V) rN),(⟨s.j,⟨s.pp.b⟩,⟨s.K.b⟩,s.n,(⟨_,_,⟨s.G2.pp.b⟩,_,_⟩:ExpT),(⟨_,_,⟨s.val.pp.b⟩,_,_⟩:ExpT),s.y,_,s.G7⟩:StmT),_,_,_,_,_,_,mv,o4,_,_,_,(bt),(HS.G3 e2),V,(vo),(vo),(vo),(vo),(vo),(vo),(vo),(vo),Z,E,T,hl,O,a_a⟩
 refine wr 1 [] 94 95 [] [(94,(((ah ar 13:Nat):Int)==10))] trivial V V λ_=>zI 1 3 (λhH=>?_) λhH=>?_
 ·refine bQ 1 96 99 [] [(99,(decide ((0:Int)<(s.G4.length:Int))))] (Hr_ 1 0 Hn_) an V V λ_=>zd 1 3 (λhI=>?_) λhI=>?_
  ·have pm:=aF at_ s.G4.length;refine bQ 2 100 104 [7] [(7,(.int _ _))] (Hr_ 2 0 (Hc_ 4 (ga.aE ex at_ _ H4 (vo)) Hn_)) an V V λ_=>ab (zlo _ an V RL.nl V λqf qP qQ qa hk c7=>cS 2 1 106 107 [] [(107,(sL _ _ _))] (Hr_ 2 0 Hn_) c7 V V λ_=>zao 2 hk c7 (SR.sv U c7) V V V M λbf bl hh qb a4 hq=>?_)
   have a4:OZ F bf s.G4 bl hh:=a4;refine sgo 2 4 109 109 [] [] (Hr_ 5 0 Hn_) hq V V λpA qc bb=>ai 1 V (az V ?_)
   have⟨ax,e6⟩:=Sv.Gg (OS.sv a4 bb (i:=2) V);have⟨n1,n2,n3,n4,n5,n6,k5,k6,hj,fq,fu,f1,f2⟩:=StmT.fx (e6 (ah at_ s.G4.length));have pZ:in64 ar->in64 (Int.tdiv ar 13):=λh=>vq h e_
   have p0:in64 at_->in64 (Int.tdiv at_ 3):=λh=>vq h e_
   refine cC 12 110 121 [] [(111,(S_ bf s.G4 bl)),(112,((ah at_ s.G4.length:Nat):Int)),(117,(aG [(s.G4.getD (ah at_ s.G4.length) n_).j,(tX (s.G4.getD (ah at_ s.G4.length) n_).pp.b),(tX (s.G4.getD (ah at_ s.G4.length) n_).K.b),(s.G4.getD (ah at_ s.G4.length) n_).n,(s.G4.getD (ah at_ s.G4.length) n_).G2.j,(s.G4.getD (ah at_ s.G4.length) n_).G2.n,(tX (s.G4.getD (ah at_ s.G4.length) n_).G2.pp.b),(s.G4.getD (ah at_ s.G4.length) n_).G2.op,(sL (cA (ax (ah at_ s.G4.length)) 8) (s.G4.getD (ah at_ s.G4.length) n_).G2.I.length (cK (ax (ah at_ s.G4.length)) 8)),(s.G4.getD (ah at_ s.G4.length) n_).val.j,(s.G4.getD (ah at_ s.G4.length) n_).val.n,(tX (s.G4.getD (ah at_ s.G4.length) n_).val.pp.b),(s.G4.getD (ah at_ s.G4.length) n_).val.op,(sL (cA (ax (ah at_ s.G4.length)) 13) (s.G4.getD (ah at_ s.G4.length) n_).val.I.length (cK (ax (ah at_ s.G4.length)) 13)),(sL (cA (ax (ah at_ s.G4.length)) 14) (s.G4.getD (ah at_ s.G4.length) n_).y.length (cK (ax (ah at_ s.G4.length)) 14)),(sL (cA (ax (ah at_ s.G4.length)) 15) (s.G4.getD (ah at_ s.G4.length) n_).G4.length (cK (ax (ah at_ s.G4.length)) 15)),(sL (cA (ax (ah at_ s.G4.length)) 16) (s.G4.getD (ah at_ s.G4.length) n_).G7.length (cK (ax (ah at_ s.G4.length)) 16))])),(119,(Int.tdiv ar 13)),(121,(Int.tdiv at_ 3))] (Hr_ 1 0 (Hr_ 4 0 (Ha_ (Sv.ix (j:=((ah at_ s.G4.length:Nat):Int)) (OS.sv a4 bb (i:=2) V) (vo) (vo)) (Hl_ 7 (qn 63 0 17 (hc0 (StmT.vw (e6 (ah at_ s.G4.length)) (vo))) V V V V) (Ha_ (vA (show(13:Int)≠0 from by decide) (vq (a:=ar) (b:=13) (vo) e_)) (Ha_ (vA (show(3:Int)≠0 from by decide) (vq (a:=at_) (b:=3) (vo) e_)) Hn_)))))) bb V V λ_=>bH (W:=[]) (bj V V V) V V V (ih (s.G4.getD (ah at_ s.G4.length) n_) (Int.tdiv ar 13) (Int.tdiv at_ 3) (HS.call bb.G5) (vo) (vo) (vo) (vo) (vo) hj (vo) (vo) (vo) fq fu f1 f2 (vo) (vo) (by(have:=kP (l:=s.G4) (i:=ah at_ s.G4.length) M;omega)) (by(have:=kP (l:=s.G4) (i:=ah at_ s.G4.length) M;omega))) (⟨.inl V,.inl V,.inl V,.inl V,.inl V,.inl V,.inl V,.inl V,.inl V,.inr trivial,.inr a0g,l_⟩) ?_
   rintro _ hC ⟨al,c3,c4,b2,ci,b4,co,b5,cL,b6,c0,hA,ba,aA,rfl,hJ,hK,hQ,hS,hT,hV,hy,hz,d4,c9,dk,dn,dt,pW⟩;refine⟨Wr.did aA.log,λhw f4=>?_⟩;replace aA:=HS.G8 bb.G5 V aA;replace aA:=HS.lg aA bb f4;generalize ({hC with log:=hw}:Heap)=pj at aA⊢;have a4:=a4.ac ba;refine wfv (v:=(.pointer (some ⟨sB (S_ bf s.G4 bl),sO (S_ bf s.G4 bl)+(ah at_ s.G4.length) *Rp.sz StmT,none⟩))) (dw (α:=StmT) (j:=((ah at_ s.G4.length:Nat):Int)) V V V V (OS.sv a4 aA.G5 (i:=2) V) (vo) (vo)) (ef (id:= .x (hh.map Prod.fst)) (jS (α:=StmT) (j:=ah at_ s.G4.length) (off:=0) (q:=2) al a4 aA.G5 V V V V V V V V (aT (x:=n_) (vo)) V (fX (F:=hA) (Y:=al) (cl:=[al.j,(tX al.pp.b),(tX al.K.b),al.n,al.G2.j,al.G2.n,(tX al.G2.pp.b),al.G2.op,(S_ c3 al.G2.I c4),al.val.j,al.val.n,(tX al.val.pp.b),al.val.op,(S_ b2 al.val.I ci),(S_ b4 al.y co),(S_ b5 al.G4 cL),(S_ b6 al.G7 c0)]) (StmT.mkr ⟨c3,c4,b2,ci,b4,co,b5,cL,b6,c0,V,by exact vo,by exact vo,by exact vo,by exact vo,by exact vo,by exact vo,by exact vo,by exact vo,d4,c9,dk,dn,dt⟩))) V (by rintro _ _ k4 ⟨c5,_,hwr⟩;exact dl V V (Wr.did hwr)) (kb V) ?_);rintro _ hD k4 ⟨c5,b0,_⟩ hx f5;replace b0:=HS.lg b0 aA f5;generalize ({hD with log:=hx}:Heap)=pl at b0⊢;have n7:=OS.len' c5;refine aQ 3 V (sgr 1 124 124 [] [] (Hr_ 0 0 (Hr_ 1 1 Hn_)) b0 V V λpS hF hr=>?_);have⟨hB,bw,ht,c6,pY⟩:=OS.Gi c5 hr (i:=2) V;replace E:=(E.ac ba).ac bw;replace T:=(T.ac ba).ac bw;replace O:=(O.ac ba).ac bw;replace Z:=(Z.ac ba).ac bw;replace c6:=SR.norm c6;have go:HS _ _ _ [_,_,_] _:=ht;have e3:Hb H hB hF [(fP b1 [s.j,(tX s.pp.b),(tX s.K.b),s.n,s.G2.j,s.G2.n,(tX s.G2.pp.b),s.G2.op,(S_ a8 s.G2.I a9),s.val.j,s.val.n,(tX s.val.pp.b),s.val.op,(S_ a1 s.val.I a5),(S_ a2 s.y a6),(sL bf (s.G4.set (ah at_ s.G4.length) al).length bl),(S_ a3 s.G7 a7)]),(fP b3 [s.j,(tX s.pp.b),(tX s.K.b),s.n,s.G2.j,s.G2.n,(tX s.G2.pp.b),s.G2.op,(S_ a8 s.G2.I a9),s.val.j,s.val.n,(tX s.val.pp.b),s.val.op,(S_ a1 s.val.I a5),(S_ a2 s.y a6),(sL bf (s.G4.set (ah at_ s.G4.length) al).length bl),(S_ a3 s.G7 a7)]),[]] R:=by simpa only[a0u,a0o] using go
   refine ag ⟨.inr V,_,(rC V (bV V V (i_ e3 V) V) rN),(⟨s.j,⟨s.pp.b⟩,⟨s.K.b⟩,s.n,(⟨s.G2.j,s.G2.n,⟨s.G2.pp.b⟩,s.G2.op,s.G2.I⟩:ExpT),(⟨s.val.j,s.val.n,⟨s.val.pp.b⟩,s.val.op,s.val.I⟩:ExpT),s.y,s.G4.set (ah at_ s.G4.length) al,s.G7⟩:StmT),a8,a9,a1,a5,a2,a6,bf,bl,a3,a7,_,(fT (ba) bw),(HS.G3 e3),V,(vo),(vo),(vo),(vo),(vo),(vo),(vo),(vo),Z,E,T,c6,O,(by(simp only[gt,jF];have:=lR (k:=120) (show ah at_ s.G4.length<s.G4.length by omega) X;omega))⟩
  refine sgr 1 124 124 [] [] (Hr_ 0 0 (Hr_ 1 1 Hn_)) an V V λpU qd e4=>ag ⟨.inr V,_,(rC V (bV V V (i_ e4 V) V) rN),s,a8,a9,a1,a5,a2,a6,bn,bF,a3,a7,_,fR,(HS.G3 e4),V,(vo),(vo),(vo),(vo),(vo),(vo),(vo),(vo),Z,E,T,U,O,M⟩
 refine sgr 1 124 124 [] [] (Hr_ 0 0 (Hr_ 1 1 Hn_)) an V V λpV qe e5=>ag ⟨.inr V,_,(rC V (bV V V (i_ e5 V) V) rN),s,a8,a9,a1,a5,a2,a6,bn,bF,a3,a7,_,fR,(HS.G3 e5),V,(vo),(vo),(vo),(vo),(vo),(vo),(vo),(vo),Z,E,T,U,O,M⟩
theorem mstmt_c{U a3 T a2 O a1 E aA a8 ba}(s:StmT)(ar:Int)(at_:Int)(hs:Hb H F H [] R)(b0:in64 s.j)(b1:in64 s.n)(b2:in64 s.G2.j)(b3:in64 s.G2.n)(b4:in64 s.G2.op)(b5:Sr F a8 s.G2.I ba)(b6:in64 s.val.j)(bf:in64 s.val.n)(bl:in64 s.val.op)(bn:Sr F E s.val.I aA)(bt:Sr F O s.y a1)(bw:Sr F T s.G4 a2)(bF:Sr F U s.G7 a3)(b8:in64 ar)(b7:in64 at_)(hn:bkS s<=1000000000):kKt ex 20 [(aG [s.j,(tX s.pp.b),(tX s.K.b),s.n,s.G2.j,s.G2.n,(tX s.G2.pp.b),s.G2.op,(S_ a8 s.G2.I ba),s.val.j,s.val.n,(tX s.val.pp.b),s.val.op,(S_ E s.val.I aA),(S_ O s.y a1),(S_ T s.G4 a2),(S_ U s.G7 a3)]),ar,at_] H λv H'=> ∃(x:StmT),∃a9,∃(bb:Nat),∃Z,∃(a4:Nat),∃al,∃(a5:Nat),∃an,∃(a6:Nat),∃ax,∃(a7:Nat),∃F',F.le F'/\Hb H F' H' [] R/\v= .agg ⟨[iI x.j,tX x.pp.b,tX x.K.b,iI x.n,iI x.G2.j,iI x.G2.n,tX x.G2.pp.b,iI x.G2.op,sL a9 (Q x.G2.I) bb,iI x.val.j,iI x.val.n,tX x.val.pp.b,iI x.val.op,sL Z (Q x.val.I) a4,sL al (Q x.y) a5,sL an (Q x.G4) a6,sL ax (Q x.G7) a7]⟩/\in64 x.j/\in64 x.n/\in64 x.G2.j/\in64 x.G2.n/\in64 x.G2.op/\in64 x.val.j/\in64 x.val.n/\in64 x.val.op/\Sr F' a9 x.G2.I bb/\Sr F' Z x.val.I a4/\Sr F' al x.y a5/\Sr F' an x.G4 a6/\Sr F' ax x.G7 a7/\(bkS x<=bkS s+120):=
 mstmt_c_aux ex (bkS s+1) s ar at_ hs b0 b1 b2 b3 b4 b5 b6 bf bl bn bt bw bF b8 b7 hn (a0y _)
end km
open km
namespace kp
variable (ex:FuncId) {F:Fz} {H:Heap} {R:List Fp}
abbrev zKP1:List StmT:=[(⟨0,⟨[]⟩,⟨[]⟩,0,(⟨0,0,⟨[]⟩,0,([]:List ExpT)⟩:ExpT),(⟨0,0,⟨[]⟩,0,([]:List ExpT)⟩:ExpT),([]:List ExpT),([]:List StmT),([]:List StmT)⟩:StmT)]
abbrev zKP2:StmT:=⟨4,⟨[]⟩,⟨[]⟩,0,(⟨0,0,⟨[]⟩,0,([]:List ExpT)⟩:ExpT),(⟨1,0,⟨[]⟩,0,([]:List ExpT)⟩:ExpT),([]:List ExpT),([]:List StmT),([]:List StmT)⟩
abbrev zKP3:List Str:=[⟨[120]⟩,⟨[110]⟩,⟨[97]⟩,⟨[122]⟩,⟨[114,101,116,117,114,110]⟩,⟨[95]⟩]
abbrev zKP4:List Str:=[⟨[105]⟩,⟨[98]⟩,⟨[113]⟩,⟨[120,32,121]⟩,⟨[119,104,105,108,101]⟩]
abbrev zKP5:List Str:=[⟨[103]⟩,⟨[105,102]⟩,⟨[]⟩,⟨[97]⟩,⟨[116,111,111,108,111,110,103,97,110,97,109,101,49,50,51,52,53]⟩,⟨[57,120]⟩]
abbrev zKP6:List Str:=[⟨[97]⟩,⟨[99]⟩,⟨[120]⟩,⟨[102]⟩,⟨[111,117,116]⟩]
abbrev zKP7:ExpT:=⟨0,0,⟨[]⟩,0,([]:List ExpT)⟩
abbrev zKP8:ExpT:=⟨1,0,⟨[]⟩,0,([]:List ExpT)⟩
abbrev kr:List StmT:=[]
abbrev oj:List Str:=[⟨[102]⟩,⟨[104]⟩]
abbrev zKP11:List Str:=[⟨[120]⟩,⟨[121]⟩]
abbrev zKP12:List Str:=[⟨[105]⟩,⟨[106]⟩]
abbrev iX:List ExpT:=[]
abbrev iW:List Str:=[]
abbrev zKP15:List Str:=[⟨[110]⟩]
abbrev zKP16:List Str:=[⟨[105]⟩]
theorem vyV{p:Prop}(h:p:=by first|omega|(dsimp only;omega)|(show _<2;omega)|assumption|(simp only[a00,a02,a03];omega)):p:=h
def SO{α:Type} [Rp α](F:Fz)(v:Value)(l:List α)(p:Fp):Prop:=OS F v l p\/SR F v l
theorem SO.ac{α:Type} [Rp α]{F F'}{v:Value}{l:List α}{p}(h:SO F v l p)(E:F.le F'):SO F' v l p:=h.elim (λh=> .inl (h.ac E)) λh=> .inr (h.ac E)
instance{α:Type}[Rp α]{F F':Fz}{v:Value}{l:List α}{p:Fp}:Mo F F' (SO F v l p) (SO F' v l p):=⟨λh x=>x.ac h⟩
theorem SO.Gi{α:Type} [Rp α]{F}{v:Value}{l:List α}{p}{B:Base}{H:Heap}{L R:List Fp}(h:SO F v l p)(hs:HS B F H L R){i:Nat}(hi:L[i]?=some p): ∃F',F.le F'/\HS B F' H (L.set i []) R/\SR F' v l/\True:=by
 rcases h with h|h
 ·have⟨F',E,O,T,_⟩:=OS.Gi h hs hi;exact⟨F',E,O,T,trivial⟩
 exact⟨F,Fz.le_refl _,HS.drop hs hi,h,trivial⟩
theorem ixR{b:Nat}{j:Int}(h:0<=j/\j<2):IX (sL (some ⟨b,0,none⟩) 2 2) j:=⟨b,0,2,2,V,h.1,h.2,a07 _⟩
theorem pk2{n:Int}{i}(E:ah n 2=i)(H:Heap):kKt ex 17 [n,(iI 2)] H λv H'=>v=(iI (i:Int))/\H'=H:=E▸ga.aE ex n 2 H M
theorem nP1{k:Nat}:Q (Y zKP5 k n_).b<=17:=ic e_
theorem nP2{k:Nat}:Q (Y zKP3 k n_).b<=17:=ic e_
theorem nP3{k:Nat}:Q (Y zKP4 k n_).b<=17:=ic e_
theorem nP6{k:Nat}:Q (Y zKP6 k n_).b<=17:=ic e_
theorem nP7{k:Nat}:Q (Y oj k n_).b<=17:=ic e_
theorem bkAs_set{l:List ArrT}{n:Int}: ∀{i:Nat},lj (l.set i ⟨(Y l i n_).pp,n⟩)=lj l:=by
 induction l with
 |nil=>intro i;rfl
 |cons a l ih=>
  intro i
  cases i with
  |zero=>rfl
  |succ i=>rw[a1O,lj,lj];exact congrArg _ ih
theorem bk_aset{z x:StmT}: ∀{l:List StmT},uSs ((l++[z]).set (Q l) x)=uSs l+uS x
 | []=>by show uSs [x]=uSs []+uS x;rw[uSs,uSs,uSs];omega
 |a::l=>by show uSs (a::((l++[z]).set (Q l) x))=_;rw[uSs,uSs,bk_aset];omega
theorem bk_fs{l:List Int}:lj (bm l).d<=62:=by unfold bm;simp only[lj,bkA];decide
theorem vyE{p:Prop}(h:p:=by first|assumption|omega|(simp only[bkAs_set,bk_mu,uSs,bkP,lj,bkFs,bkF,bkA,bkN,iA,gt,bkAs_app,bkFs_app,bkN_app,gh,gg,dD,cN,jF,a02,a03,a00];omega)|(simp only[bkAs_set,jF,a02,a03];omega)|(rw[bk_aset];simp only[bk_mu,iA,dD,cN,a03];omega)|exact⟨M,M,M⟩):p:=h
theorem vyA{p:Prop}(h:p:=by first|omega|(simp only[a00,a02,a03];omega)):p:=h
theorem gstmtso_c{a8 bl cp}(r:RdT)(u:Int)(deep:Nat)(ar:Nat)(hs:HS (.of H [cp]) F H [(fP cp [(S_ a8 r.l bl),r.n])] R)(em:Sr F a8 r.l bl)(g0:in64 r.n)(hd:deep<=3)(e5:ar<=5):kKt ex 18 [(pT cp 0),u,(deep:Int),(ar:Int)] H λv H'=> ∃ax,∃(kx:Nat) (x:List StmT),∃p,∃(r':RdT),∃a7,∃(bf:Nat),∃F',F.le F'/\HS (.of H [cp]) F' H' [(fP cp [(S_ a7 r'.l bf),r'.n]),p] R/\v=sL ax (Q x) kx/\OZ F' ax x kx p/\in64 r'.n/\Sr F' a7 r'.l bf/\x=(aS u (3-deep) ar r).1/\r'=(aS u (3-deep) ar r).2:=by
 refine ay Tryz.func18 V V (aj 1 V (wr 2 [] 8 8 [] [(8,(sL _ 0 0))] trivial V V λ_=>wr 3 [] 1 0 [9] [(9,(sL _ 0 0))] trivial V V λ_=>ab (zm (pT cp 0) ?_)));refine zc (ga.kJ ex r (g_ hs V) em M) ?_;rintro _ H3 ⟨x3,fb,d7,d9,F3,d1,bb,rfl,d8,bt,rfl,rfl,h3⟩;replace bb:=hs.bO bb;have e4:=aF (hdG r) (ar+1);refine wro 4 2 [(4,.o (.int _ _))] 13 15 [10] [(10,(.int _ _))] (vA (vi) (vA (ga.aE ex _ (ar+1) H3 M) trivial)) V V λ_=>ai 2 V ?_
 have d2:=HS.snoc bb;refine ak (λ(mm:Nat) f H'=> ∃(l:List StmT) (k:Nat) (rr:RdT),∃Z,∃(al:Nat),∃an E,∃(O:Nat),∃F',F3.le F'/\HS _ F' H' [[(cp,.cells [(S_ E rr.l O),(.int _ rr.n)] _ _)],an] R/\OZ F' Z l al an/\Sr F' E rr.l O/\aI f [(0,(pT cp 0)),(1,(.int _ u)),(2,(.int _ _)),(9,(S_ Z l al)),(10,(.int _ (k:Int)))]/\mm=k+1/\(aS u _ _ r=(l++(jT _ k rr).1,(jT (cj u (3-deep)) k rr).2))/\(Q l+k<=6)/\(in64 rr.n)) _ ⟨kr,_,_,_,0,[],_,_,_,fR,d2,(OS.nil:OS _ _ _ []),bt,f_,V,k_,(by have:=di (n:=hdG r) (m:=ar+1) M;show 0+_<=_;omega),M⟩ ?_;rintro e7 f6 H6 ⟨l,k,rr,Z,al,an,E,O,F6,bF,a5,T,U,b0,rfl,hw,hl,hn⟩ d3;refine aw _ b0 (λ_=>?_);clear b0;refine aj 2 V (wrp 1 16 25 [] [(25,((decide ((0:Int)<(k:Int)))&&(decide ((0:Int)<(Q rr.l:Int)))))] (dj 6 (λ_=>(ql 26 0 (h_ a5 V) V V)) Hn_) V V λ_=>zI 3 5 (λc9=>?_) λc9=>?_)
 ·refine ab (wro 4 0 [] 28 31 [] [(28,(sL _ _ _)),(29,(pT cp 0)),(30,(.int _ u)),(31,(.int _ _))] trivial V V λ_=>zc (gb.gstmt_c ex rr u _ (g_ a5 V) U M M) ?_);rintro _ e0 ⟨fd,dn,d5,b7,c5,b8,c6,b9,c7,ch,c8,et,dk,d4,ez,a9,a4,rfl,ci,co,cL,c0,c3,c4,b2,b3,a6,aA,a1,a2,a3,dt,bn,rfl,rfl⟩;replace a4:=a5.bO a4;have T:=T.ac a9;refine zlo _ a4 V (RL.cs (StmT.mq a6 aA a1 a2 a3) RL.nl) V λe3 e6 e8 e1 b4 ba=>zao 1 T ba (OS.sv b4 ba (i:=2) V) V V V M λbw b1 d6 e2 b5 b6=>za (sL bw _ b1) (ai 2 V (wr 1 [(1,.e ((k-1:Nat):Int))] 26 27 [10] [(10,(.int _ _))] (vA (ve M M) trivial) V V λ_=>?_))
  refine d3 _ _ _ ?_ ⟨_,_,_,bw,b1,d6,_,_,_,(fT (bF) a9),(HS.sub b6 (a06 _ _)),b5,bn,f_,V,(by rw[hw];exact row_s M (ne_nil M)),(by rw[a00,a0v];omega),M⟩;omega
 refine wr 1 [] 8 8 [35] [(8,(sL _ _ _))] trivial V V λ_=>ag ⟨.inr V,_,V,_,_,l,_,rr,_,_,_,(fT (d1) bF),(HS.pair a5 (i:=1) e_ V),V,T,M,U,(by(rw[hw,row_n M]<;>first|rfl|exact(a0k _).symm)),(by(rw[hw,row_n M]<;>first|rfl|exact(a0k _).symm))⟩
theorem gprogr_c{ar cp}(l:List Int)(hs:Hb H F H [] R)(hl:Sr F ar l cp):kKt ex 6 [(S_ ar l cp)] H λv H'=> ∃aA,∃(kA:Nat) (la:List ArrT),∃pA e0,∃(fb:Nat) (ch:List Str),∃f2 et,∃(e7:Nat) (b8:List Str),∃fu e1,∃(fd:Nat) (ci:List Str),∃pp1 ez,∃(e8:Nat) (b9:List Str),∃f1,∃(bF:Nat),∃ee,∃(e5:Nat) (b6:List StmT),∃fq,∃(T:ExpT),∃e2,∃(fi:Nat),∃em,∃(e6:Nat) (b7:List StmT),∃pb1,∃(U:ExpT),∃e3,∃(fk:Nat),∃F',F.le F'/\Hb H F' H' [pA,f2,fu,pp1,f1,(fP bF [(tX [102]),(S_ e0 ch fb),(S_ et b8 e7),(S_ ee b6 e5),T.j,T.n,(tX T.pp.b),T.op,(S_ e2 T.I fi),(tX [103]),(S_ e1 ci fd),(S_ ez b9 e8),(S_ em b7 e6),U.j,U.n,(tX U.pp.b),U.op,(S_ e3 U.I fk)]),fq,pb1] R/\v=(aG [sL aA (Q la) kA,sL (some ⟨bF,0,none⟩) 2 2])/\OZ F' aA la kA pA/\OZ F' e0 ch fb f2/\OZ F' et b8 e7 fu/\OZ F' ee b6 e5 fq/\in64 T.j/\in64 T.n/\in64 T.op/\Sr F' e2 T.I fi/\OZ F' e1 ci fd pp1/\OZ F' ez b9 e8 f1/\OZ F' em b7 e6 pb1/\in64 U.j/\in64 U.n/\in64 U.op/\Sr F' e3 U.I fk/\la=(bm l).d/\ch=zKP11/\b8=zKP12/\b6=(cn l).1/\T=(eF l).1/\ci=zKP15/\b9=zKP16/\b7=(cW l).1/\U=(ii l).1:=by
 have qA:=take60 l;refine ay Tryz.func6 V V (aj 1 V (ab (zn hs V λb1 H2 hA=>ai 2 V (ab ?_))));refine zlo ([]:List Int) hA V RL.nl V λa3 k3 p3 H4 hy c9=>wro 4 1 [] 7 10 [] [(7,(sL ar _ cp)),(10,(.int _ (if(60:Int)<(Q l:Int) then(60:Int) else(Q l:Int))))] trivial V V λ_=>bd (rs_cutt hl c9 V V V (optN (vyV)) (vyV)) V V ?_
 rintro _ _ _ ⟨a6,k6,rfl,b5,hz⟩;simp only at b5;replace b5:=b5.symm;subst b5;refine zao 1 hy c9 (SR.sv hz c9) V V V M λa7 k7 p7 H8 c7 hB=>?_
 have c7:OS F (sL a7 (Q (l.take (if(60:Int)<(Q l:Int) then(60:Int) else(Q l:Int)).toNat)) k7) (l.take (if(60:Int)<(Q l:Int) then(60:Int) else(Q l:Int)).toNat) p7:=c7;refine wro 1 7 [] 13 13 [] [(13,(aG [(sL a7 (Q (l.take (if(60:Int)<(Q l:Int) then(60:Int) else(Q l:Int)).toNat)) k7),_]))] trivial V V λ_=>bd (aW hB V V) V V ?_
 rintro _ kn _ ⟨al,rfl,gm,_⟩;refine za _ (ai 2 V (ab (zm (pT al 0) ?_)));have⟨j2,f7,c8,f9,iv⟩:=OS.Gi c7 gm (i:=1) V;refine zc (ga.kJ ex (⟨_,0⟩:RdT) (HS.Gh c8 (i:=2) V) f9 (vyV)) ?_;rintro _ d9 ⟨mx,i1,hn,hD,j1,f6,bw,rfl,ht,d5,rfl,rfl,mv⟩;replace bw:=c8.bO bw;refine za (.int _ _) (ai 2 V (ab ?_));have h4:=aF (hdG (⟨(l.take (if(60:Int)<(Q l:Int) then(60:Int) else(Q l:Int)).toNat),0⟩:RdT)) 4;have jA:in64 (hdG (⟨(l.take (if(60:Int)<(Q l:Int) then(60:Int) else(Q l:Int)).toNat),0⟩:RdT))->in64 (Int.tdiv (hdG (⟨(l.take (if(60:Int)<(Q l:Int) then(60:Int) else(Q l:Int)).toNat),0⟩:RdT)) 4):=λh=>vq h e_
 have h5:=aF (Int.tdiv (hdG (⟨(l.take (if(60:Int)<(Q l:Int) then(60:Int) else(Q l:Int)).toNat),0⟩:RdT)) 4) 4;refine cu 9 0 17 25 [] [(20,(aG [_,_])),(25,(aG [_,_]))] (Hc_ 1 (ga.aE ex _ 4 d9 (vyV)) (Ha_ (vi (vyV)) (Ha_ (vA (show(4:Int)≠0 from by decide) (vq (vyV) e_)) (Hc_ 6 (ga.aE ex (Int.tdiv _ 4) 4 d9 (vyV)) (Ha_ (vi (vyV)) Hn_))))) V V λ_=>zlo ([_,_]:List ArrT) bw V (RL.cs ⟨V,by exact vyV⟩ (RL.cs ⟨V,by exact vyV⟩ RL.nl)) V λea e4 hJ kt bb go=>cu 1 10 27 27 [] [(27,(aG [(sL ea (Q ([(⟨_,_⟩:ArrT),(⟨_,_⟩:ArrT)]:List ArrT)) e4),_]))] Hn_ V V λ_=>zn go V λms kx g0=>sgo 1 12 1 0 [] [] (Hr_ 12 4 Hn_) g0 V V λh6 k0 g1=>ai 2 V ?_
 refine ab (zlo zKP11 g1 V j_ V λcL dn hK k4 bf g2=>zlo zKP12 g2 V j_ V λc0 dt hQ k5 bl g3=>cu 1 2 30 30 [] [(30,(aG [_,_,_,_,_,_,_,_,_]))] Hn_ V V λ_=>zlo zKP15 g3 V (RL.cs V RL.nl) V λc3 d1 hS k8 bn g4=>zlo zKP16 g4 V (RL.cs V RL.nl) V λc4 d2 hT k9 bt g5=>?_);let f3:Value:=(aG [(tX [103]),(S_ c3 zKP15 d1),(S_ c4 zKP16 d2),N_,(iI 0),(iI 0),(tX []),(iI 0),N_])
 refine cu 1 5 33 33 [] [(33,f3)] Hn_ K_ V λ_=>bd (rs_litC (ps:=[(0,(aG [(tX [102]),(S_ cL zKP11 dn),(S_ c0 zKP12 dt),N_,(iI 0),(iI 0),(tX []),(iI 0),N_])),(1,f3)]) (cells:=[(tX [102]),(S_ cL zKP11 dn),(S_ c0 zKP12 dt),N_,(iI 0),(iI 0),(tX []),(iI 0),N_,(tX [103]),(S_ c3 zKP15 d1),(S_ c4 zKP16 d2),N_,(iI 0),(iI 0),(tX []),(iI 0),N_]) g5 V V V K_) V V ?_
 rintro _ ll _ ⟨ba,rfl,g6,_⟩;refine sgo 2 7 35 35 [] [] (Hr_ 8 4 Hn_) g6 V V λh7 lr a4=>ai 2 V (az V (cC 3 36 38 [] [(37,(sL (some ⟨ba,0,none⟩) 2 2)),(38,(pT al 0))] (Hr_ 1 4 Hn_) a4 V V λ_=>wcD [al] (j:=2) a4 V V (gstmtso_c ex (au (⟨(l.take (if(60:Int)<(Q l:Int) then(60:Int) else(Q l:Int)).toNat),0⟩:RdT)) (0) 0 5 (HS.Gh a4.G5 (i:=2) V) d5 (vyV) (vyV) (vyV)) V V (⟨.inl V,.inr (HS.nin a4 (i:=4) (j:=2) V V e_ (List.Mem.head _)),l_⟩) ?_))
 rintro _ lx ⟨f4,g8,m0,hV,i2,ho,hF,kd,an,b0,rfl,a1,hu,d6,rfl,rfl⟩;refine⟨_,_,_,b0,λh0 b0=>?_⟩;refine sdo 3 40 41 [] [] (Ha_ (ixR (j:=0) e_) (Hr_ 6 9 Hn_)) b0 V V λh8 lz a5=>aQ 2 V (az V (cC 3 42 44 [] [(43,(sL (some ⟨ba,0,none⟩) 2 2)),(44,(pT al 0))] (Hr_ 1 4 Hn_) a5 V V λ_=>wcD [al] (j:=2) a5 V V (ga.fN ex ((aS (0:Int) (3-0) 5 (au (⟨(l.take (if(60:Int)<(Q l:Int) then(60:Int) else(Q l:Int)).toNat),0⟩:RdT))).2) (0) 1 (HS.Gh a5.G5 (i:=2) V) d6 (vyV) (vyV)) V V (⟨.inl V,.inr (HS.nin a5 (i:=4) (j:=2) V V e_ (List.Mem.head _)),l_⟩) ?_))
 rintro _ l3 ⟨m1,c5,d3,i3,hp,hG,ki,Z,b2,rfl,he,hf,hg,ax,hv,d7,rfl,rfl⟩;refine⟨_,_,_,b2,λh1 b2=>?_⟩;refine sdo 3 46 47 [] [] (Ha_ (ixR (j:=0) e_) (Hr_ 6 9 Hn_)) b2 V V λh9 l5 a8=>aQ 2 V (az V (cC 3 48 50 [] [(49,(sL (some ⟨ba,0,none⟩) 2 2)),(50,(pT al 0))] (Hr_ 1 4 Hn_) a8 V V λ_=>wcD [al] (j:=2) a8 V V (gstmtso_c ex ((ap (0:Int) (4-1) ((aS (0:Int) (3-0) 5 (au (⟨(l.take (if(60:Int)<(Q l:Int) then(60:Int) else(Q l:Int)).toNat),0⟩:RdT))).2)).2) (1) 1 3 (HS.Gh a8.G5 (i:=2) V) d7 (vyV) (vyV) (vyV)) V V (⟨.inl V,.inr (HS.nin a8 (i:=4) (j:=2) V V e_ (List.Mem.head _)),l_⟩) ?_))
 rintro _ ma ⟨f5,g9,m2,hW,i9,hq,hH,kk,O,b3,rfl,a2,hw,d8,rfl,rfl⟩;refine⟨_,_,_,b3,λh2 b3=>?_⟩;refine sdo 3 52 53 [] [] (Ha_ (ixR (j:=1) e_) (Hr_ 6 9 Hn_)) b3 V V λia mf a9=>aQ 2 V (az V (cC 3 54 56 [] [(55,(sL (some ⟨ba,0,none⟩) 2 2)),(56,(pT al 0))] (Hr_ 1 4 Hn_) a9 V V λ_=>wcD [al] (j:=2) a9 V V (ga.fN ex ((aS (1:Int) (3-1) 3 ((ap (0:Int) (4-1) ((aS (0:Int) (3-0) 5 (au (⟨(l.take (if(60:Int)<(Q l:Int) then(60:Int) else(Q l:Int)).toNat),0⟩:RdT))).2)).2)).2) (1) 1 (HS.Gh a9.G5 (i:=2) V) d8 (vyV) (vyV)) V V (⟨.inl V,.inr (HS.nin a9 (i:=4) (j:=2) V V e_ (List.Mem.head _)),l_⟩) ?_))
 rintro _ mg ⟨m3,c6,d4,jw,hr,hI,kl,E,b4,rfl,hh,hj,hk,co,hx,hX,rfl,rfl⟩;refine⟨_,_,_,b4,λh3 b4=>?_⟩;replace bb:=(((bb.ac an).ac Z).ac O).ac E;replace bf:=(((bf.ac an).ac Z).ac O).ac E;replace bl:=(((bl.ac an).ac Z).ac O).ac E;replace bn:=(((bn.ac an).ac Z).ac O).ac E;replace bt:=(((bt.ac an).ac Z).ac O).ac E;replace a1:=((a1.ac Z).ac O).ac E;replace ax:=(ax.ac O).ac E;have a2:=a2.ac E;refine sdo 3 58 59 [] [] (Ha_ (ixR (j:=1) e_) (Hr_ 6 9 Hn_)) b4 V V λik mm g7=>aQ 2 V (sgr 1 60 60 [] [] (Hr_ 0 4 (Hr_ 1 0 Hn_)) g7 V V λit mp dk=>ag ⟨.inr V,_,(rC V (bV V V (h_ dk V) V) rN),ea,e4,([(⟨⟨[97]⟩,1+((ah (hdG (⟨(l.take (if(60:Int)<(Q l:Int) then(60:Int) else(Q l:Int)).toNat),0⟩:RdT)) 4:Nat):Int)⟩:ArrT),(⟨⟨[98]⟩,1+((ah (Int.tdiv (hdG (⟨(l.take (if(60:Int)<(Q l:Int) then(60:Int) else(Q l:Int)).toNat),0⟩:RdT)) 4) 4:Nat):Int)⟩:ArrT)]:List ArrT),hJ,cL,dn,zKP11,hK,c0,dt,zKP12,hQ,c3,d1,zKP15,hS,c4,d2,zKP16,hT,ba,f4,g8,(aS (0:Int) (3-0) 5 (au (⟨(l.take (if(60:Int)<(Q l:Int) then(60:Int) else(Q l:Int)).toNat),0⟩:RdT))).1,hV,((ap (0:Int) (4-1) ((aS (0:Int) (3-0) 5 (au (⟨(l.take (if(60:Int)<(Q l:Int) then(60:Int) else(Q l:Int)).toNat),0⟩:RdT))).2)).1),c5,d3,f5,g9,(aS (1:Int) (3-1) 3 ((ap (0:Int) (4-1) ((aS (0:Int) (3-0) 5 (au (⟨(l.take (if(60:Int)<(Q l:Int) then(60:Int) else(Q l:Int)).toNat),0⟩:RdT))).2)).2)).1,hW,((ap (1:Int) (4-1) ((aS (1:Int) (3-1) 3 ((ap (0:Int) (4-1) ((aS (0:Int) (3-0) 5 (au (⟨(l.take (if(60:Int)<(Q l:Int) then(60:Int) else(Q l:Int)).toNat),0⟩:RdT))).2)).2)).2)).1),c6,d4,_,(fT (fT (fT (fT (fT (f7) f6) an) Z) O) E),(HS.sub dk (.cons _ (.cons _ (.cons _ (.cons_cons _ (.cons _ (.cons_cons _ (.cons_cons _ (.cons_cons _ (.cons_cons _ (.cons_cons _ (.cons_cons _ (.cons_cons _ (List.nil_sublist _)))))))))))))),V,bb,bf,bl,a1,(vyV),(vyV),(vyV),ax,bn,bt,a2,(vyV),(vyV),(vyV),co,k_,k_,k_,k_,k_,k_,k_,k_,k_⟩)
theorem mprog0_c{zT z9}(l:List Int)(ar:Int)(at_:Int)(hs:Hb H F H [] R)(hl:Sr F zT l z9)(Bq:in64 ar)(Bp:in64 at_)(hz:ah at_ 2=0):kKt ex 7 [(S_ zT l z9),ar,at_] H λv H'=> ∃(x:PrgT),∃p6,∃(qx:Nat),∃p7,∃(qy:Nat),∃F',F.le F'/\Hb H F' H' [] R/\v= .agg ⟨[sL p6 (Q x.d) qx,sL p7 (Q x.U) qy]⟩/\Sr F' p6 x.d qx/\Sr F' p7 x.U qy/\(bkP x<=20000):=by
 refine ay Tryz.func7 V V (aj 1 V (ab (zn hs V λb1 H2 r7=>ai 2 V (ab ?_))));refine zm (S_ zT l z9) (zc (gprogr_c ex l (HS.call r7) hl) ?_);rintro _ H3 ⟨aA,kA,la,pA,b3,b5,bw,c3,b6,b8,b2,c4,a8,bf,bt,pp1,a7,bb,bn,c0,bF,ch,ci,T,d2,O,b7,b9,a6,ba,a5,pb1,E,a9,bl,F3,p8,qp,rfl,hA_,a3,a2,b0,s1,s3,s5,a4,an,al,Z,s2,s4,s6,ax,qA_,qG,qE,qC,qI,qH,qF,qD,qJ⟩;replace qp:=HS.G8 r7 V qp;refine zn qp V λb4 H5 uA=>sgo 1 3 1 0 [] [] (Hr_ 3 9 Hn_) uA V V λyk H6 cL=>ai 2 V ?_
 have zA:lj la<=62:=by rw[qA_];exact bk_fs
 have zB:Q la=2:=by rw[qA_];rfl
 have yR:bkN bw<=6:=by rw[qG];decide
 have yN:=cY bw;have yP:bkN b2<=6:=by rw[qE];decide
 have yL:=cY b2;have yJ:=gf T;have yT:=kz T;have yS:bkN bt<=6:=by rw[qH];decide
 have yO:=cY bt;have yQ:bkN bn<=6:=by rw[qF];decide
 have yM:=cY bn;have yK:=gf a5;have yU:=kz a5;have zj:cN T+bkE O+cN a5+bkE E<=10320:=by rw[qC,qI,qD,qJ];exact bk_all l
 have m1:= @nP1 (ah (ar.tdiv 24) 6);have m2:= @nP2 (ah (ar.tdiv 24) 6);have m3:= @nP3 (ah (ar.tdiv 24) 5);have m6:= @nP6 (ah (ar.tdiv 24) 5);have m7:= @nP7 (ah (ar.tdiv 24) 2);clear qA_ qG qE qC qI qH qF qD qJ;refine sdr0 2 19 23 [8] [(8,(pT bF 0))] (Hr_ 1 9 (Ho_ 3 (.o (iI 0)) (pk2 ex hz {H6 with log:=[]}) (Ha_ (ixR (j:=0) e_) Hn_))) cL rfl rfl rfl λ_=>?_
 have yI:in64 ar->in64 (Int.tdiv ar 24):=λh=>vq h e_
 refine wU 3 [] 24 25 [9] [(9,(Int.tdiv ar 24))] (vA (show(24:Int)≠0 from by decide) (vq (a:=ar) (b:=24) (vyV) e_)) V λ_=>?_
 have xo:=aF ar 24;let hS:Fp:=(fP b1 [N_,N_])
 refine wU 3 [(1,.o (iI ((ah ar 24:Nat):Int)))] 26 27 [] [(27,((ah ar 24:Nat):Int))] (ga.aE ex ar 24 H6 (vyV)) V λ_=>wT 1 [] 28 29 [] [(28,(((ah ar 24:Nat):Int)==1))] V λ_=>jg (λf H'=> ∃aA,∃(kA:Nat) (jA:List ArrT),∃pA,∃(jn0:List UInt8),∃b3,∃(b5:Nat) (g7:List Str),∃c3 b6,∃(b8:Nat) (jl0:List Str),∃c4 ch,∃(ci:Nat) (g6:List StmT),∃d2,∃(a1:ExpT),∃b7,∃(b9:Nat) (jn1:List UInt8),∃a8,∃(bf:Nat) (g3:List Str),∃pp1 a7,∃(bb:Nat) (g2:List Str),∃c0 a6,∃(ba:Nat) (g1:List StmT),∃pb1,∃(U:ExpT),∃a9,∃(bl:Nat),∃F',F3.le F'/\Hb H F' H' [hS,pA,c3,c4,pp1,c0,(fP bF [(tX jn0),(S_ b3 g7 b5),(S_ b6 jl0 b8),(S_ ch g6 ci),a1.j,a1.n,(tX a1.pp.b),a1.op,(S_ b7 a1.I b9),(tX jn1),(S_ a8 g3 bf),(S_ a7 g2 bb),(S_ a6 g1 ba),U.j,U.n,(tX U.pp.b),U.op,(S_ a9 U.I bl)]),d2,pb1,(fP b4 [(S_ aA jA kA),(sL (some ⟨bF,0,none⟩) 2 2)])] R/\SO F' (S_ aA jA kA) jA pA/\SO F' (S_ b3 g7 b5) g7 c3/\SO F' (S_ b6 jl0 b8) jl0 c4/\SO F' (S_ ch g6 ci) g6 d2/\in64 a1.j/\in64 a1.n/\in64 a1.op/\Sr F' b7 a1.I b9/\SO F' (S_ a8 g3 bf) g3 pp1/\SO F' (S_ a7 g2 bb) g2 c0/\SO F' (S_ a6 g1 ba) g1 pb1/\in64 U.j/\in64 U.n/\in64 U.op/\Sr F' a9 U.I bl/\aI f [(6,(pT b1 0)),(7,(pT b4 0))]/\lj jA+((50+Q jn0+bkN g7+bkN jl0+uSs g6+bkE a1)+(50+Q jn1+bkN g3+bkN g2+uSs g1+bkE U))<=20000) (λc5=>?_) ?_
 ·refine zI 0 1 (λuf=>?_) λuf=>?_
  ·refine ab (zm (pT bF 0) (zlo zKP5 cL V j_ V λx8 yl yx t7 qj mf=>?_));have xp:=aF (Int.tdiv ar 24) 6;have⟨xf,tK⟩:=Sv.Gg (OS.sv qj mf (i:=10) V);refine sgo 7 2 32 37 [] [] (Hc_ 3 (ga.aE ex (Int.tdiv ar 24) 6 t7 (vyV)) (Ha_ (Sv.ix (j:=((ah (Int.tdiv ar 24) 6:Nat):Int)) (OS.sv qj mf (i:=10) V) (vyV) (show((ah (Int.tdiv ar 24) 6:Nat):Int)<(6:Int) from by exact vyV)) (Hl_ 5 (ql 9 0 (vS (tK (ah (Int.tdiv ar 24) 6)) (show ah (Int.tdiv ar 24) 6<6 from by exact vyV)) V V) (Hr_ 8 6 Hn_)))) mf V V λxx x1 tA=>ai 0 V ?_
   exact c5 _ _ ⟨aA,kA,la,pA,(Y zKP5 (ah (Int.tdiv ar 24) 6) n_).b,b3,b5,bw,c3,b6,b8,b2,c4,ch,ci,T,d2,O,b7,b9,[103],a8,bf,bt,pp1,a7,bb,bn,c0,a6,ba,a5,pb1,E,a9,bl,_,fR,(HS.sub tA (a06 _ _)),(.inl hA_),(.inl a3),(.inl a2),(.inl b0),(vyV),(vyV),(vyV),a4,(.inl an),(.inl al),(.inl Z),(vyV),(vyV),(vyV),ax,f_,(vyE)⟩
  refine wT 1 [] 38 39 [] [(38,(((ah ar 24:Nat):Int)==2))] V λ_=>zI 0 1 (λug=>?_) λug=>?_
  ·refine az V (cC 5 40 44 [] [(40,(pT bF 0)),(44,(S_ b3 bw b5))] (Hr_ 4 6 Hn_) cL V V λ_=>zld zKP3 cL V j_ V λx9 ym yy sD qk k3=>?_);have xq:=aF (Int.tdiv ar 24) 6;have⟨xg,tL⟩:=Sv.Gg (OS.sv qk k3 (i:=10) V);refine cC 4 46 49 [] [(49,(tX (Y zKP3 (ah (Int.tdiv ar 24) 6) n_).b))] (Hc_ 7 (ga.aE ex (Int.tdiv ar 24) 6 {sD with log:=[]} (vyV)) (Ha_ (Sv.ix (j:=((ah (Int.tdiv ar 24) 6:Nat):Int)) (OS.sv qk k3 (i:=10) rfl) (vyV) (show((ah (Int.tdiv ar 24) 6:Nat):Int)<(6:Int) from by exact vyV)) (Hl_ 9 (ql 9 0 (hc0 (vS (tL (ah (Int.tdiv ar 24) 6)) (show ah (Int.tdiv ar 24) 6<6 from by exact vyV))) rfl rfl) Hn_))) k3 rfl rfl λ_=>zld ([⟨(Y zKP3 (ah (Int.tdiv ar 24) 6) n_).b⟩]:List Str) k3 rfl (RL.cs rfl RL.nl) rfl λya yn yA wV th qq=>zad 2 a3 qq (OS.sv th qq (i:=11) rfl) rfl rfl rfl (vyA) (kb rfl) λub uB uF wW ti tB=>sdo 3 52 53 [] [] (Hr_ 14 6 Hn_) tB rfl rfl λxy x2 tC=>aQ 0 rfl ?_
   exact c5 _ _ ⟨aA,kA,la,pA,[102],ub,uB,bw++([⟨(Y zKP3 (ah (Int.tdiv ar 24) 6) n_).b⟩]:List Str),uF,b6,b8,b2,c4,ch,ci,T,d2,O,b7,b9,[103],a8,bf,bt,pp1,a7,bb,bn,c0,a6,ba,a5,pb1,E,a9,bl,_,fR,(HS.sub tC (a06 _ _)),(.inl hA_),(.inl ti),(.inl a2),(.inl b0),(vyV),(vyV),(vyV),a4,(.inl an),(.inl al),(.inl Z),(vyV),(vyV),(vyV),ax,f_,(vyE)⟩
  refine wT 1 [] 54 55 [] [(54,(((ah ar 24:Nat):Int)==3))] V λ_=>zI 0 1 (λuh=>?_) λuh=>?_
  ·refine az V (cC 5 56 60 [] [(56,(pT bF 0)),(60,(S_ b6 b2 b8))] (Hr_ 4 6 Hn_) cL V V λ_=>zld zKP4 cL V j_ V λyb yo yB sE qm k4=>?_);have xr:=aF (Int.tdiv ar 24) 5;have⟨xh,tM⟩:=Sv.Gg (OS.sv qm k4 (i:=10) V);refine cC 4 62 65 [] [(65,(tX (Y zKP4 (ah (Int.tdiv ar 24) 5) n_).b))] (Hc_ 7 (ga.aE ex (Int.tdiv ar 24) 5 {sE with log:=[]} (vyV)) (Ha_ (Sv.ix (j:=((ah (Int.tdiv ar 24) 5:Nat):Int)) (OS.sv qm k4 (i:=10) rfl) (vyV) (show((ah (Int.tdiv ar 24) 5:Nat):Int)<(5:Int) from by exact vyV)) (Hl_ 9 (ql 9 0 (hc0 (vS (tM (ah (Int.tdiv ar 24) 5)) (show ah (Int.tdiv ar 24) 5<5 from by exact vyV))) rfl rfl) Hn_))) k4 rfl rfl λ_=>zld ([⟨(Y zKP4 (ah (Int.tdiv ar 24) 5) n_).b⟩]:List Str) k4 rfl (RL.cs rfl RL.nl) rfl λyc yp yC wX tj qr=>zad 3 a2 qr (OS.sv tj qr (i:=11) rfl) rfl rfl rfl (vyA) (kb rfl) λuc uC uG wY tk tD=>sdo 3 68 69 [] [] (Hr_ 14 6 Hn_) tD rfl rfl λxz x3 tE=>aQ 0 rfl ?_
   exact c5 _ _ ⟨aA,kA,la,pA,[102],b3,b5,bw,c3,uc,uC,b2++([⟨(Y zKP4 (ah (Int.tdiv ar 24) 5) n_).b⟩]:List Str),uG,ch,ci,T,d2,O,b7,b9,[103],a8,bf,bt,pp1,a7,bb,bn,c0,a6,ba,a5,pb1,E,a9,bl,_,fR,(HS.sub tE (a06 _ _)),(.inl hA_),(.inl a3),(.inl tk),(.inl b0),(vyV),(vyV),(vyV),a4,(.inl an),(.inl al),(.inl Z),(vyV),(vyV),(vyV),ax,f_,(vyE)⟩
  refine wT 1 [] 70 71 [] [(70,(((ah ar 24:Nat):Int)==4))] V λ_=>zI 1 1 (λui=>?_) λui=>?_
  ·refine wT 2 [] 1 0 [10] [(10,(iI 0))] V λ_=>ak (λ(mm:Nat) f H'=> ∃(lz:List Str) (j:Nat),∃gm d8,∃(ea:Nat),∃F',F3.le F'/\Hb H F' H' [hS,pA,c3,gm,pp1,c0,(fP bF [(tX [102]),(S_ b3 bw b5),(S_ d8 lz ea),(S_ ch T ci),O.j,O.n,(tX O.pp.b),O.op,(S_ b7 O.I b9),(tX [103]),(S_ a8 bt bf),(S_ a7 bn bb),(S_ a6 a5 ba),E.j,E.n,(tX E.pp.b),E.op,(S_ a9 E.I bl)]),d2,pb1,(fP b4 [(S_ aA la kA),(sL (some ⟨bF,0,none⟩) 2 2)])] R/\OZ F' d8 lz ea gm/\aI f [(6,(pT b1 0)),(7,(pT b4 0)),(8,(pT bF 0)),(9,(Int.tdiv ar 24)),(10,(j:Int))]/\mm=12-j/\(bkN lz<=10+4 *j)/\(j<=12)) _ ⟨b2,0,c4,b6,b8,_,fR,cL,a2,f_,V,(vyE),(vyE)⟩ ?_
   rintro xL yi t8 ⟨lz,j,gm,d8,ea,xX,go,mg,hn,qa,rfl,hb,hj⟩ tO;refine aw _ qa (λ_=>?_);clear qa;have⟨hA_,b0,Z,al,a3,an,a4,ax⟩:=M8 go hA_ b0 Z al a3 an a4 ax;have yz:=cY lz;refine aj 2 V ?_;have xt:=aF (Int.tdiv ar 24) 12;refine wU 1 [(2,.o (iI ((ah (Int.tdiv ar 24) 12:Nat):Int)))] 72 75 [] [(75,(decide ((j:Int)<((ah (Int.tdiv ar 24) 12:Nat):Int))))] (ga.aE ex (Int.tdiv ar 24) 12 t8 (vyV)) V λ_=>zd 3 3 (λuj=>?_) λuj=>?_
   ·refine az V (cC 8 78 85 [] [(78,(pT bF 0)),(82,(S_ d8 lz ea)),(85,(.int .u8 (97+(j:Int))))] (Hr_ 4 6 (Ha_ (vi (n:=97+(j:Int)) (vyV)) (Ha_ (vb (n:=97+(j:Int)) (vyV)) Hn_))) mg V V λ_=>zld [(UInt8.ofNat (97+j))] mg V (RL.cs (u8r (n:=97+j) (vyV)) RL.nl) V λyd yq yD wZ tp qs=>bh (v:=(tX [(UInt8.ofNat (97+j))])) (id:= .x []) (oi V V V V (OS.sv tp qs.G5 (i:=10) V)) V V (dl (W:=[]) V V λb hb=>absurd hb a0g) (⟨.inl V,.inl V,.inl V,.inl V,.inr a0g,l_⟩) (wfv (v:=(tX ([118]++[(UInt8.ofNat (97+j))]))) (pL V V (vyV)) (zld ([⟨[118]++[(UInt8.ofNat (97+j))]⟩]:List Str) qs V (RL.cs V RL.nl) V λye yr yE w2 tq qt=>?_)));refine zad 3 hn qt (OS.sv tq qt (i:=11) V) V V V (vyA) (kb V) λud uD uH w4 tt tF=>sdo 3 91 92 [] [] (Hr_ 15 6 Hn_) tF V V λxA x4 tG=>aQ 2 V (wU 1 [] 76 77 [10] [(10,(iI ((j:Int)+1)))] (vi (n:=(j:Int)+1) (vyV)) V λ_=>?_)
    refine tO _ _ _ ?_ ⟨lz++([⟨[118]++[(UInt8.ofNat (97+j))]⟩]:List Str),j+1,uH,ud,uD,_,(go),(HS.sub tG (a06 _ _)),tt,f_,V,(vyE),(vyE)⟩;omega
   exact c5 _ _ ⟨aA,kA,la,pA,[102],b3,b5,bw,c3,d8,ea,lz,gm,ch,ci,T,d2,O,b7,b9,[103],a8,bf,bt,pp1,a7,bb,bn,c0,a6,ba,a5,pb1,E,a9,bl,_,(go),mg,(.inl hA_),(.inl a3),(.inl hn),(.inl b0),(vyV),(vyV),(vyV),a4,(.inl an),(.inl al),(.inl Z),(vyV),(vyV),(vyV),ax,f_,(vyE)⟩
  refine wT 1 [] 93 94 [] [(93,(((ah ar 24:Nat):Int)==5))] V λ_=>zI 0 1 (λuk=>?_) λuk=>?_
  ·refine az V ?_;have xu:=aF (Int.tdiv ar 24) 20;refine cC 9 95 103 [] [(101,(iI (((ah (Int.tdiv ar 24) 20:Nat):Int)-1))),(103,(.pointer (some ⟨sB (S_ aA la kA),sO (S_ aA la kA)+0 *Rp.sz ArrT+1,none⟩)))] (Hr_ 1 9 (Ho_ 3 (.o (iI 0)) (pk2 ex hz {H6 with log:=[]}) (Hc_ 5 (ga.aE ex (Int.tdiv ar 24) 20 {H6 with log:=[]} (vyV)) (Ha_ (vi (n:=((ah (Int.tdiv ar 24) 20:Nat):Int)-1) (vyV)) (Ha_ (Sv.ix (j:=0) (OS.sv hA_ cL (i:=1) rfl) e_ (vyV)) Hn_))))) cL rfl rfl λ_=>ef (id:= .s (pA.map Prod.fst)) (jS (α:=ArrT) (j:=0) (off:=1) (q:=1) (⟨(Y la 0 n_).pp,((ah (Int.tdiv ar 24) 20:Nat):Int)-1⟩:ArrT) hA_ cL.G5 rfl rfl rfl rfl rfl rfl rfl rfl (aT (x:=n_) (vyV)) rfl (by rintro cs ⟨rfl,yH⟩;exact⟨a0d V,⟨V,by exact vyV⟩⟩)) V (by rintro _ _ r8 ⟨hG,_,hwr⟩;exact lF (dl V V (Wr.did hwr))) (kb V) ?_
   rintro _ t9 r8 ⟨hG,k5,_⟩ tV qO;replace k5:=HS.lg k5 cL qO;generalize ({t9 with log:=tV}:Heap)=w5 at k5⊢;have vg:=OS.len' hG;refine aQ 0 V ?_;replace hG:=OS.norm hG;exact c5 _ _ ⟨aA,kA,la.set 0 (⟨(Y la 0 n_).pp,((ah (Int.tdiv ar 24) 20:Nat):Int)-1⟩:ArrT),r8,[102],b3,b5,bw,c3,b6,b8,b2,c4,ch,ci,T,d2,O,b7,b9,[103],a8,bf,bt,pp1,a7,bb,bn,c0,a6,ba,a5,pb1,E,a9,bl,_,fR,(by simp only[S_,a0u,a0o];exact k5),(.inl hG),(.inl a3),(.inl a2),(.inl b0),(vyV),(vyV),(vyV),a4,(.inl an),(.inl al),(.inl Z),(vyV),(vyV),(vyV),ax,f_,(vyE)⟩
  refine wT 1 [] 104 105 [] [(104,(((ah ar 24:Nat):Int)==6))] V λ_=>zI 0 1 (λul=>?_) λul=>?_
  ·refine az V (cC 2 106 107 [] [(107,(S_ aA la kA))] (Hr_ 1 9 Hn_) cL V V λ_=>zld zKP6 cL V j_ V λyf yu yF sF qo k6=>?_);have xv:=aF (Int.tdiv ar 24) 5;have⟨xi,tN⟩:=Sv.Gg (OS.sv qo k6 (i:=10) V);refine cC 5 109 113 [] [(113,(aG [(tX (Y zKP6 (ah (Int.tdiv ar 24) 5) n_).b),(iI 3)]))] (Hc_ 4 (ga.aE ex (Int.tdiv ar 24) 5 {sF with log:=[]} (vyV)) (Ha_ (Sv.ix (j:=((ah (Int.tdiv ar 24) 5:Nat):Int)) (OS.sv qo k6 (i:=10) rfl) (vyV) (show((ah (Int.tdiv ar 24) 5:Nat):Int)<(5:Int) from by exact vyV)) (Hl_ 6 (ql 9 0 (hc0 (vS (tN (ah (Int.tdiv ar 24) 5)) (show ah (Int.tdiv ar 24) 5<5 from by exact vyV))) rfl rfl) Hn_))) k6 rfl rfl λ_=>zld ([(⟨⟨(Y zKP6 (ah (Int.tdiv ar 24) 5) n_).b⟩,3⟩:ArrT)]:List ArrT) k6 rfl (RL.cs ⟨rfl,by exact vyV⟩ RL.nl) rfl λyg yv yG w6 tu qu=>zad 1 hA_ qu (OS.sv tu qu (i:=11) rfl) rfl rfl rfl (vyA) (kb rfl) λue uE uI w7 tw tH=>sdo 2 116 116 [] [] (Hr_ 11 9 Hn_) tH rfl rfl λxB x5 tI=>aQ 0 rfl ?_
   exact c5 _ _ ⟨ue,uE,la++([(⟨⟨(Y zKP6 (ah (Int.tdiv ar 24) 5) n_).b⟩,3⟩:ArrT)]:List ArrT),uI,[102],b3,b5,bw,c3,b6,b8,b2,c4,ch,ci,T,d2,O,b7,b9,[103],a8,bf,bt,pp1,a7,bb,bn,c0,a6,ba,a5,pb1,E,a9,bl,_,fR,(HS.sub tI (a06 _ _)),(.inl tw),(.inl a3),(.inl a2),(.inl b0),(vyV),(vyV),(vyV),a4,(.inl an),(.inl al),(.inl Z),(vyV),(vyV),(vyV),ax,f_,(vyE)⟩
  refine wT 1 [] 117 118 [] [(117,(((ah ar 24:Nat):Int)==7))] V λ_=>zI 0 1 (λum=>?_) λum=>?_
  ·refine ab (cS 7 0 119 125 [] [(119,(pT bF 0)),(123,(aG [O.j,O.n,(tX O.pp.b),O.op,(S_ b7 O.I b9)])),(124,(Int.tdiv ar 24)),(125,at_)] (Hr_ 4 6 Hn_) cL V V λ_=>zc (km.oT ex O (Int.tdiv ar 24) at_ (HS.call cL) (vyV) (vyV) (vyV) a4 (vyV) (vyV) M) ?_);rintro _ x6 ⟨uJ,p5,qw,xY,g4,mp,rfl,t4,t5,t6,pX,xD⟩;replace mp:=HS.G8 cL V mp;have⟨hA_,b0,Z,a2,al,a3,an,ax⟩:=M8 g4 hA_ b0 Z a2 al a3 an ax;refine sgo 3 8 127 128 [] [] (Hr_ 10 6 Hn_) mp V V λxC x7 tJ=>ai 0 V ?_
   exact c5 _ _ ⟨aA,kA,la,pA,[102],b3,b5,bw,c3,b6,b8,b2,c4,ch,ci,T,d2,uJ,p5,qw,[103],a8,bf,bt,pp1,a7,bb,bn,c0,a6,ba,a5,pb1,E,a9,bl,_,(g4),tJ,(.inl hA_),(.inl a3),(.inl a2),(.inl b0),(vyV),(vyV),(vyV),pX,(.inl an),(.inl al),(.inl Z),(vyV),(vyV),(vyV),ax,f_,(vyE)⟩
  refine wT 1 [] 129 130 [] [(129,(((ah ar 24:Nat):Int)==8))] V λ_=>zI 1 1 (λuo=>?_) λuo=>?_
  ·refine wT 2 [] 1 0 [11] [(11,(iI 0))] V λ_=>ak (λ(mm:Nat) f H'=> ∃(ee:ExpT) (j:Nat),∃d9,∃(em:Nat),∃F',F3.le F'/\Hb H F' H' [hS,pA,c3,c4,pp1,c0,(fP bF [(tX [102]),(S_ b3 bw b5),(S_ b6 b2 b8),(S_ ch T ci),ee.j,ee.n,(tX ee.pp.b),ee.op,(S_ d9 ee.I em),(tX [103]),(S_ a8 bt bf),(S_ a7 bn bb),(S_ a6 a5 ba),E.j,E.n,(tX E.pp.b),E.op,(S_ a9 E.I bl)]),d2,pb1,(fP b4 [(S_ aA la kA),(sL (some ⟨bF,0,none⟩) 2 2)])] R/\Sr F' d9 ee.I em/\aI f [(6,(pT b1 0)),(7,(pT b4 0)),(8,(pT bF 0)),(9,(Int.tdiv ar 24)),(11,(j:Int))]/\mm=30-j/\(in64 ee.j/\in64 ee.n/\in64 ee.op)/\(bkE ee<=bkE O+21 *j)/\(j<=30)) _ ⟨O,0,b7,b9,_,fR,cL,a4,f_,V,(vyE),(vyE),(vyE)⟩ ?_
   rintro xM yj ua ⟨ee,j,d9,em,xZ,g0,ms,ho,qb,rfl,h1,hb,hj⟩ tP;refine aw _ qb (λ_=>?_);clear qb;have⟨hA_,b0,Z,a2,al,a3,an,ax⟩:=M8 g0 hA_ b0 Z a2 al a3 an ax;refine aj 2 V ?_;have xw:=aF (Int.tdiv ar 24) 30;refine wU 1 [(2,.o (iI ((ah (Int.tdiv ar 24) 30:Nat):Int)))] 131 134 [] [(134,(decide ((j:Int)<((ah (Int.tdiv ar 24) 30:Nat):Int))))] (ga.aE ex (Int.tdiv ar 24) 30 ua (vyV)) V λ_=>zd 3 3 (λuq=>?_) λuq=>?_
   ·refine ab (cS 5 0 137 141 [] [(137,(pT bF 0)),(141,(aG [ee.j,ee.n,(tX ee.pp.b),ee.op,(S_ d9 ee.I em)]))] (Hr_ 4 6 Hn_) ms V V λ_=>zlo [ee] ms V (RL.cs (ExpT.mq ho) RL.nl) V λsG tS xN wC qP q9=>sgo 4 6 143 145 [] [] (Hr_ 9 6 Hn_) q9 V V λu4 wD ra=>ai 2 V (wU 1 [] 135 136 [11] [(11,(iI ((j:Int)+1)))] (vi (n:=(j:Int)+1) (vyV)) V λ_=>?_));have⟨v4,qM,rb,q0,vh⟩:=OS.Gi qP ra (i:=10) V;refine tP _ _ _ ?_ ⟨(⟨4,0,⟨[]⟩,21,[ee]⟩:ExpT),j+1,sG,tS,_,(fT (g0) qM),(HS.sub rb (a06 _ _)),q0,f_,V,(vyE),(vyE),(vyE)⟩;omega
   exact c5 _ _ ⟨aA,kA,la,pA,[102],b3,b5,bw,c3,b6,b8,b2,c4,ch,ci,T,d2,ee,d9,em,[103],a8,bf,bt,pp1,a7,bb,bn,c0,a6,ba,a5,pb1,E,a9,bl,_,(g0),ms,(.inl hA_),(.inl a3),(.inl a2),(.inl b0),(vyV),(vyV),(vyV),ho,(.inl an),(.inl al),(.inl Z),(vyV),(vyV),(vyV),ax,f_,(vyE)⟩
  refine wT 1 [] 146 147 [] [(146,(((ah ar 24:Nat):Int)==9))] V λ_=>zI 1 1 (λsJ=>?_) λsJ=>?_
  ·have⟨sb,et,rc,q1,vj⟩:=OS.Gi b0 cL (i:=7) V;refine wT 2 [] 1 0 [12] [(12,(iI 0))] V λ_=>ak (λ(mm:Nat) f H'=> ∃(lz:List StmT) (j:Nat),∃c6,∃(dk:Nat),∃F',sb.le F'/\Hb H F' H' [hS,pA,c3,c4,pp1,c0,(fP bF [(tX [102]),(S_ b3 bw b5),(S_ b6 b2 b8),(S_ c6 lz dk),O.j,O.n,(tX O.pp.b),O.op,(S_ b7 O.I b9),(tX [103]),(S_ a8 bt bf),(S_ a7 bn bb),(S_ a6 a5 ba),E.j,E.n,(tX E.pp.b),E.op,(S_ a9 E.I bl)]),[],pb1,(fP b4 [(S_ aA la kA),(sL (some ⟨bF,0,none⟩) 2 2)])] R/\Sr F' c6 lz dk/\aI f [(6,(pT b1 0)),(7,(pT b4 0)),(8,(pT bF 0)),(9,(Int.tdiv ar 24)),(12,(j:Int))]/\mm=30-j/\(cN lz<=cN T+180 *j)/\(uSs lz<=cN lz)/\(j<=30)) _ ⟨T,0,ch,ci,_,fR,rc,q1,f_,V,(vyE),(vyE),(vyE)⟩ ?_
   rintro vZ xj sf ⟨lz,j,c6,dk,v5,d4,kk,hh,o1,rfl,hb,hu,hj⟩ rS;refine aw _ o1 (λ_=>?_);clear o1;replace hA_:=(hA_.ac et).ac d4;replace Z:=(Z.ac et).ac d4;replace a2:=(a2.ac et).ac d4;replace al:=(al.ac et).ac d4;replace a3:=(a3.ac et).ac d4;replace an:=(an.ac et).ac d4;replace a4:=(a4.ac et).ac d4;replace ax:=(ax.ac et).ac d4;refine aj 2 V ?_;have uY:=aF (Int.tdiv ar 24) 30;refine wU 1 [(2,.o (iI ((ah (Int.tdiv ar 24) 30:Nat):Int)))] 148 151 [] [(151,(decide ((j:Int)<((ah (Int.tdiv ar 24) 30:Nat):Int))))] (ga.aE ex (Int.tdiv ar 24) 30 sf (vyV)) V λ_=>zd 3 3 (λsM=>?_) λsM=>?_
   ·refine ab (cS 7 0 154 160 [] [(154,(pT bF 0)),(160,(aG [(iI 3),(tX []),(tX []),(iI 0),(iI 0),(iI 0),(tX []),(iI 0),N_,(iI 1),(iI 0),(tX []),(iI 0),N_,N_,(S_ c6 lz dk),N_]))] (Hr_ 5 6 Hn_) kk V V λ_=>zlo ([(⟨3,⟨[]⟩,⟨[]⟩,0,zKP7,zKP8,iX,lz,kr⟩:StmT)]:List StmT) kk V (RL.cs (StmT.mq SR.nil SR.nil SR.nil hh SR.nil) RL.nl) V λsH tT xO wE qQ re=>sgo 3 8 162 163 [] [] (Hr_ 10 6 Hn_) re V V λu5 wF rf=>ai 2 V (wU 1 [] 152 153 [12] [(12,(iI ((j:Int)+1)))] (vi (n:=(j:Int)+1) (vyV)) V λ_=>?_));have⟨v6,qN,rg,q2,vk⟩:=OS.Gi qQ rf (i:=10) V;refine rS _ _ _ ?_ ⟨([(⟨3,⟨[]⟩,⟨[]⟩,0,zKP7,zKP8,iX,lz,kr⟩:StmT)]:List StmT),j+1,sH,tT,_,(fT (d4) qN),(HS.sub rg (a06 _ _)),q2,f_,V,(vyE),(vyE),(vyE)⟩;omega
   exact c5 _ _ ⟨aA,kA,la,pA,[102],b3,b5,bw,c3,b6,b8,b2,c4,c6,dk,lz,[],O,b7,b9,[103],a8,bf,bt,pp1,a7,bb,bn,c0,a6,ba,a5,pb1,E,a9,bl,_,(fT (et) d4),kk,(.inl hA_),(.inl a3),(.inl a2),(.inr hh),(vyV),(vyV),(vyV),a4,(.inl an),(.inl al),(.inl Z),(vyV),(vyV),(vyV),ax,f_,(vyE)⟩
  refine wT 1 [] 164 165 [] [(164,(((ah ar 24:Nat):Int)==10))] V λ_=>zI 1 1 (λsN=>?_) λsN=>?_
  ·refine wT 2 [] 1 0 [13] [(13,(iI 0))] V λ_=>ak (λ(mm:Nat) f H'=> ∃(lz:List StmT) (j:Nat),∃f6 c7,∃(dn:Nat),∃F',F3.le F'/\Hb H F' H' [hS,pA,c3,c4,pp1,c0,(fP bF [(tX [102]),(S_ b3 bw b5),(S_ b6 b2 b8),(S_ c7 lz dn),O.j,O.n,(tX O.pp.b),O.op,(S_ b7 O.I b9),(tX [103]),(S_ a8 bt bf),(S_ a7 bn bb),(S_ a6 a5 ba),E.j,E.n,(tX E.pp.b),E.op,(S_ a9 E.I bl)]),f6,pb1,(fP b4 [(S_ aA la kA),(sL (some ⟨bF,0,none⟩) 2 2)])] R/\OZ F' c7 lz dn f6/\aI f [(6,(pT b1 0)),(7,(pT b4 0)),(8,(pT bF 0)),(9,(Int.tdiv ar 24)),(13,(j:Int))]/\mm=24-j/\(uSs lz<=uSs T+60 *j)/\(j<=24)) _ ⟨T,0,d2,ch,ci,_,fR,cL,b0,f_,V,(vyE),(vyE)⟩ ?_
   rintro v0 xk sg ⟨lz,j,f6,c7,dn,sc,d5,kl,hk,o2,rfl,hb,hj⟩ rU;refine aw _ o2 (λ_=>?_);clear o2;have⟨hA_,Z,a2,al,a3,an,a4,ax⟩:=M8 d5 hA_ Z a2 al a3 an a4 ax;have yz:=(kz lz).2;refine aj 2 V ?_;have uZ:=aF (Int.tdiv ar 24) 24;refine wU 1 [(2,.o (iI ((ah (Int.tdiv ar 24) 24:Nat):Int)))] 166 169 [] [(169,(decide ((j:Int)<((ah (Int.tdiv ar 24) 24:Nat):Int))))] (ga.aE ex (Int.tdiv ar 24) 24 sg (vyV)) V λ_=>zd 3 3 (λsP=>?_) λsP=>?_
   ·refine az V (cC 7 172 178 [] [(172,(pT bF 0)),(175,(S_ c7 lz dn)),(177,(aG [(iI 4),(tX []),(tX []),(iI 0),(iI 0),(iI 0),(tX []),(iI 0),N_,(iI 1),(iI 0),(tX []),(iI 0),N_,N_,N_,N_])),(178,(Q lz:Int))] (Hr_ 3 6 Hn_) kl V V λ_=>zld zKP1 kl V (RL.cs (StmT.mq SR.nil SR.nil SR.nil SR.nil SR.nil) RL.nl) V λw8 xE xP uK qR pi=>zad 7 hk pi (OS.sv qR pi (i:=10) V) V V V (vyA) (kb V) λl3 n3 tW uL o7 hq=>wfv (v:=(.pointer (some ⟨sB (sL l3 (Q (lz++zKP1)) n3),sO (sL l3 (Q (lz++zKP1)) n3)+Q lz *Rp.sz StmT,none⟩))) (dw (α:=StmT) (j:=(Q lz:Int)) V V V V (OS.sv o7 hq.G5 (i:=7) V) (vyV) (vyV)) (ef (id:= .s (tW.map Prod.fst)) (jS (α:=StmT) (j:=Q lz) (off:=0) (q:=7) zKP2 o7 hq.G5 V V V V V V V V (aT (x:=n_) (vyV)) V (fX (F:=sc) (Y:=zKP2) (cl:=[(iI 4),(tX []),(tX []),(iI 0),(iI 0),(iI 0),(tX []),(iI 0),N_,(iI 1),(iI 0),(tX []),(iI 0),N_,N_,N_,N_]) (StmT.mkr ⟨none,0,none,0,none,0,none,0,none,0,V,by exact vyV,by exact vyV,by exact vyV,by exact vyV,by exact vyV,by exact vyV,by exact vyV,by exact vyV,SR.nil,SR.nil,SR.nil,SR.nil,SR.nil⟩))) V (by rintro _ _ qz ⟨h0,_,hwr⟩;exact lF (dl V V (Wr.did hwr))) (kb V) ?_));rintro _ si qz ⟨h0,g8,_⟩ rX qc;replace g8:=HS.lg g8 hq qc;generalize ({si with log:=rX}:Heap)=uM at g8⊢;have ux:=OS.len' h0;refine cC 2 182 183 [] [(183,(pT bF 3))] Hn_ g8 V V λ_=>ef (id:= .s [bF]) (ck (q:=6) g8.G5 V V V V V V V V V) V (by rintro _ _ _ ⟨_,hwr⟩;exact lF (dl V V (Wr.did hwr))) (⟨.inl V,.inl V,.inr ⟨V,V,λb hb=>HS.nin hq (i:=7) (j:=6) V V e_ hb⟩,l_⟩) ?_
    rintro _ sk _ ⟨hr,_⟩ rY qd;replace hr:=HS.lg hr g8 qd;generalize ({sk with log:=rY}:Heap)=uN at hr⊢;refine aQ 2 V (wU 1 [] 170 171 [13] [(13,(iI ((j:Int)+1)))] (vi (n:=(j:Int)+1) (vyV)) V λ_=>?_);refine rU _ _ _ ?_ ⟨(lz++zKP1).set (Q lz) zKP2,j+1,qz,l3,n3,_,(d5),(by(simpa only[S_,a0u] using(HS.sub hr (a06 _ _)))),(OS.norm h0),f_,V,(vyE),(vyE)⟩;omega
   exact c5 _ _ ⟨aA,kA,la,pA,[102],b3,b5,bw,c3,b6,b8,b2,c4,c7,dn,lz,f6,O,b7,b9,[103],a8,bf,bt,pp1,a7,bb,bn,c0,a6,ba,a5,pb1,E,a9,bl,_,(d5),kl,(.inl hA_),(.inl a3),(.inl a2),(.inl hk),(vyV),(vyV),(vyV),a4,(.inl an),(.inl al),(.inl Z),(vyV),(vyV),(vyV),ax,f_,(vyE)⟩
  refine wT 1 [] 184 185 [] [(184,(((ah ar 24:Nat):Int)==11))] V λ_=>zI 1 2 (λsQ=>?_) λsQ=>?_
  ·refine wT 2 [] 1 0 [14] [(14,(iI 0))] V λ_=>ak (λ(mm:Nat) f H'=> ∃(lz:List StmT) (j:Nat),∃f7 c8,∃(dt:Nat),∃F',F3.le F'/\Hb H F' H' [hS,pA,c3,c4,pp1,c0,(fP bF [(tX [102]),(S_ b3 bw b5),(S_ b6 b2 b8),(S_ c8 lz dt),O.j,O.n,(tX O.pp.b),O.op,(S_ b7 O.I b9),(tX [103]),(S_ a8 bt bf),(S_ a7 bn bb),(S_ a6 a5 ba),E.j,E.n,(tX E.pp.b),E.op,(S_ a9 E.I bl)]),f7,pb1,(fP b4 [(S_ aA la kA),(sL (some ⟨bF,0,none⟩) 2 2)])] R/\OZ F' c8 lz dt f7/\aI f [(6,(pT b1 0)),(7,(pT b4 0)),(8,(pT bF 0)),(9,(Int.tdiv ar 24)),(14,(j:Int))]/\mm=259-j/\(uSs lz<=uSs T+36 *j)/\(j<=259)) _ ⟨T,0,d2,ch,ci,_,fR,cL,b0,f_,V,(vyE),(vyE)⟩ ?_
   rintro v1 xl so ⟨lz,j,f7,c8,dt,sd,d6,kn,hm,o3,rfl,hb,hj⟩ rV;refine aw _ o3 (λ_=>?_);clear o3;have⟨hA_,Z,a2,al,a3,an,a4,ax⟩:=M8 d6 hA_ Z a2 al a3 an a4 ax;have yz:=(kz lz).2;refine aj 2 V ?_;have u0:=aF (Int.tdiv ar 24) 260;refine wU 1 [(2,.o (iI ((ah (Int.tdiv ar 24) 260:Nat):Int)))] 186 189 [] [(189,(decide ((j:Int)<((ah (Int.tdiv ar 24) 260:Nat):Int))))] (ga.aE ex (Int.tdiv ar 24) 260 so (vyV)) V λ_=>zd 3 3 (λsR=>?_) λsR=>?_
   ·refine az V (cC 8 192 199 [] [(192,(pT bF 0)),(195,(S_ c8 lz dt)),(198,(aG [(iI 5),(tX []),(tX []),(iI 0),(iI 0),(iI 0),(tX []),(iI 0),N_,(iI 1),(j:Int),(tX []),(iI 0),N_,N_,N_,N_])),(199,(Q lz:Int))] (Hr_ 3 6 Hn_) kn V V λ_=>zld zKP1 kn V (RL.cs (StmT.mq SR.nil SR.nil SR.nil SR.nil SR.nil) RL.nl) V λw9 xF xQ uO qS pj=>zad 7 hm pj (OS.sv qS pj (i:=10) V) V V V (vyA) (kb V) λl5 n4 tY uP o8 ht=>wfv (v:=(.pointer (some ⟨sB (sL l5 (Q (lz++zKP1)) n4),sO (sL l5 (Q (lz++zKP1)) n4)+Q lz *Rp.sz StmT,none⟩))) (dw (α:=StmT) (j:=(Q lz:Int)) V V V V (OS.sv o8 ht.G5 (i:=7) V) (vyV) (vyV)) (ef (id:= .s (tY.map Prod.fst)) (jS (α:=StmT) (j:=Q lz) (off:=0) (q:=7) (⟨5,⟨[]⟩,⟨[]⟩,0,zKP7,(⟨1,(j:Int),⟨[]⟩,0,iX⟩:ExpT),iX,kr,kr⟩:StmT) o8 ht.G5 V V V V V V V V (aT (x:=n_) (vyV)) V (fX (F:=sd) (Y:=(⟨5,⟨[]⟩,⟨[]⟩,0,zKP7,(⟨1,(j:Int),⟨[]⟩,0,iX⟩:ExpT),iX,kr,kr⟩:StmT)) (cl:=[(iI 5),(tX []),(tX []),(iI 0),(iI 0),(iI 0),(tX []),(iI 0),N_,(iI 1),(j:Int),(tX []),(iI 0),N_,N_,N_,N_]) (StmT.mkr ⟨none,0,none,0,none,0,none,0,none,0,V,by exact vyV,by exact vyV,by exact vyV,by exact vyV,by exact vyV,by exact vyV,by exact vyV,by exact vyV,SR.nil,SR.nil,SR.nil,SR.nil,SR.nil⟩))) V (by rintro _ _ qA ⟨h2,_,hwr⟩;exact lF (dl V V (Wr.did hwr))) (kb V) ?_));rintro _ sr qA ⟨h2,g9,_⟩ r0 qe;replace g9:=HS.lg g9 ht qe;generalize ({sr with log:=r0}:Heap)=uQ at g9⊢;have uy:=OS.len' h2;refine cC 2 203 204 [] [(204,(pT bF 3))] Hn_ g9 V V λ_=>ef (id:= .s [bF]) (ck (q:=6) g9.G5 V V V V V V V V V) V (by rintro _ _ _ ⟨_,hwr⟩;exact lF (dl V V (Wr.did hwr))) (⟨.inl V,.inl V,.inr ⟨V,V,λb hb=>HS.nin ht (i:=7) (j:=6) V V e_ hb⟩,l_⟩) ?_
    rintro _ ss _ ⟨hv,_⟩ r1 qf;replace hv:=HS.lg hv g9 qf;generalize ({ss with log:=r1}:Heap)=uR at hv⊢;refine aQ 2 V (wU 1 [] 190 191 [14] [(14,(iI ((j:Int)+1)))] (vi (n:=(j:Int)+1) (vyV)) V λ_=>?_);refine rV _ _ _ ?_ ⟨(lz++zKP1).set (Q lz) (⟨5,⟨[]⟩,⟨[]⟩,0,zKP7,(⟨1,(j:Int),⟨[]⟩,0,iX⟩:ExpT),iX,kr,kr⟩:StmT),j+1,qA,l5,n4,_,(d6),(by(simpa only[S_,a0u] using(HS.sub hv (a06 _ _)))),(OS.norm h2),f_,V,(vyE),(vyE)⟩;omega
   exact c5 _ _ ⟨aA,kA,la,pA,[102],b3,b5,bw,c3,b6,b8,b2,c4,c8,dt,lz,f7,O,b7,b9,[103],a8,bf,bt,pp1,a7,bb,bn,c0,a6,ba,a5,pb1,E,a9,bl,_,(d6),kn,(.inl hA_),(.inl a3),(.inl a2),(.inl hm),(vyV),(vyV),(vyV),a4,(.inl an),(.inl al),(.inl Z),(vyV),(vyV),(vyV),ax,f_,(vyE)⟩
  refine wT 1 [] 205 206 [] [(205,(((ah ar 24:Nat):Int)==12))] V λ_=>jg (λf H'=> ∃(b:Bool),H'=H6/\aI f [(2,at_),(6,(pT b1 0)),(7,(pT b4 0)),(8,(pT bF 0)),(9,(Int.tdiv ar 24)),(27,((ah ar 24:Nat):Int)),(205,b)]) (λhg=>?_) ?_
  ·refine zI 0 1 (λsS=>?_) λsS=>?_
   ·exact hg _ _ ⟨(((ah ar 24:Nat):Int)==12),V,f_⟩
   refine wT 1 [] 205 207 [] [(205,(((ah ar 24:Nat):Int)==13))] V λ_=>zI 0 1 (λsT=>?_) λsT=>?_
   ·exact hg _ _ ⟨(((ah ar 24:Nat):Int)==13),V,f_⟩
   refine wT 1 [] 205 208 [] [(205,(((ah ar 24:Nat):Int)==14))] V λ_=>zI 0 1 (λsU=>?_) λsU=>?_
   ·exact hg _ _ ⟨(((ah ar 24:Nat):Int)==14),V,f_⟩
   refine wT 1 [] 205 209 [] [(205,(((ah ar 24:Nat):Int)==15))] V λ_=>zI 0 0 (λsV=>?_) λsV=>?_
   ·exact hg _ _ ⟨(((ah ar 24:Nat):Int)==15),V,f_⟩
   refine wT 0 [] 205 210 [] [(205,(((ah ar 24:Nat):Int)==16))] V λ_=>?_
   exact hg _ _ ⟨(((ah ar 24:Nat):Int)==16),V,f_⟩
  skip;rintro xm H6 ⟨b,rfl,o4⟩;refine aw _ o4 (λ_=>?_);clear o4;refine aj 1 V (zI 1 1 (λsW=>?_) λsW=>?_)
  ·refine bQ 1 211 216 [] [(216,(decide ((0:Int)<(Q T:Int))))] (Hr_ 3 6 Hn_) cL V V λ_=>zd 1 0 (λsX=>?_) λsX=>?_
   ·have v3:in64 at_->in64 (Int.tdiv at_ 2):=λh=>vq h e_
    have u1:=aF (Int.tdiv at_ 2) (Q T);refine bQ 2 217 224 [15] [(15,((ah (Int.tdiv at_ 2) (Q T):Nat):Int))] (Ha_ (vA (show(2:Int)≠0 from by decide) (vq (a:=at_) (b:=2) (vyV) e_)) (Hr_ 5 6 (Hc_ 7 (ga.aE ex (Int.tdiv at_ 2) (Q T) H6 (vyV)) Hn_))) cL V V λ_=>ab (zm (pT bF 0) (zlo kr cL V RL.nl V λxa xG xR wG qT kt=>cS 4 2 227 230 [] [(230,(S_ ch T ci))] (Hr_ 5 6 Hn_) kt V V λ_=>zao 10 qT kt (OS.sv b0 kt (i:=7) V) V V V (vyA) λhA hH qB wH f9 rh=>?_))
    have f9:OZ F3 hA T hH qB:=f9;refine sgo 3 7 232 233 [] [] (Hr_ 9 6 Hn_) rh V V λu6 wI he=>ai 1 V (az V ?_)
    have⟨d3,pV⟩:=Sv.Gg (OS.sv f9 he (i:=10) V);have⟨ur,us,ut,uu,uv,uw,t2,t3,qK,pY,pZ,p0,p1⟩:=StmT.fx (pV (ah (Int.tdiv at_ 2) (Q T)));refine cC 14 234 247 [] [(237,(S_ hA T hH)),(238,((ah (Int.tdiv at_ 2) (Q T):Nat):Int)),(245,(aG [(Y T (ah (Int.tdiv at_ 2) (Q T)) n_).j,(tX (Y T (ah (Int.tdiv at_ 2) (Q T)) n_).pp.b),(tX (Y T (ah (Int.tdiv at_ 2) (Q T)) n_).K.b),(Y T (ah (Int.tdiv at_ 2) (Q T)) n_).n,(Y T (ah (Int.tdiv at_ 2) (Q T)) n_).G2.j,(Y T (ah (Int.tdiv at_ 2) (Q T)) n_).G2.n,(tX (Y T (ah (Int.tdiv at_ 2) (Q T)) n_).G2.pp.b),(Y T (ah (Int.tdiv at_ 2) (Q T)) n_).G2.op,(sL (cA (d3 (ah (Int.tdiv at_ 2) (Q T))) 8) (Q (Y T (ah (Int.tdiv at_ 2) (Q T)) n_).G2.I) (cK (d3 (ah (Int.tdiv at_ 2) (Q T))) 8)),(Y T (ah (Int.tdiv at_ 2) (Q T)) n_).val.j,(Y T (ah (Int.tdiv at_ 2) (Q T)) n_).val.n,(tX (Y T (ah (Int.tdiv at_ 2) (Q T)) n_).val.pp.b),(Y T (ah (Int.tdiv at_ 2) (Q T)) n_).val.op,(sL (cA (d3 (ah (Int.tdiv at_ 2) (Q T))) 13) (Q (Y T (ah (Int.tdiv at_ 2) (Q T)) n_).val.I) (cK (d3 (ah (Int.tdiv at_ 2) (Q T))) 13)),(sL (cA (d3 (ah (Int.tdiv at_ 2) (Q T))) 14) (Q (Y T (ah (Int.tdiv at_ 2) (Q T)) n_).y) (cK (d3 (ah (Int.tdiv at_ 2) (Q T))) 14)),(sL (cA (d3 (ah (Int.tdiv at_ 2) (Q T))) 15) (Q (Y T (ah (Int.tdiv at_ 2) (Q T)) n_).G4) (cK (d3 (ah (Int.tdiv at_ 2) (Q T))) 15)),(sL (cA (d3 (ah (Int.tdiv at_ 2) (Q T))) 16) (Q (Y T (ah (Int.tdiv at_ 2) (Q T)) n_).G7) (cK (d3 (ah (Int.tdiv at_ 2) (Q T))) 16))])),(246,(Int.tdiv ar 24)),(247,at_)] (Hr_ 3 6 (Hr_ 8 6 (Ha_ (Sv.ix (j:=((ah (Int.tdiv at_ 2) (Q T):Nat):Int)) (OS.sv f9 he (i:=10) V) (vyV) (vyV)) (Hl_ 11 (qn 63 0 17 (hc0 (StmT.vw (pV (ah (Int.tdiv at_ 2) (Q T))) (vyV))) V V V V) Hn_)))) he V V λ_=>bH (W:=[]) (bj V V V) V V V (km.mstmt_c ex (Y T (ah (Int.tdiv at_ 2) (Q T)) n_) (Int.tdiv ar 24) at_ (HS.call he.G5) (vyV) (vyV) (vyV) (vyV) (vyV) qK (vyV) (vyV) (vyV) pY pZ p0 p1 (vyV) (vyV) (by(have:=kP (l:=T) (i:=ah (at_.tdiv 2) (Q T)) M;omega))) (⟨.inl V,.inl V,.inl V,.inl V,.inl V,.inl V,.inl V,.inl V,.inl V,.inr trivial,.inr a0g,l_⟩) ?_
    rintro _ su ⟨co,hT,hV,hB,hI,hC,hJ,hD,hK,hF,hQ,se,d7,f4,rfl,s8,s9,tc,te,tf,tg,r5,r6,ma,k7,k8,k9,ll,vf⟩;refine⟨Wr.did f4.log,λr2 qg=>?_⟩;replace f4:=HS.G8 he.G5 V f4;replace f4:=HS.lg f4 he qg;generalize ({su with log:=r2}:Heap)=uT at f4⊢;have f9:=f9.ac d7;refine wfv (v:=(.pointer (some ⟨sB (S_ hA T hH),sO (S_ hA T hH)+(ah (Int.tdiv at_ 2) (Q T)) *Rp.sz StmT,none⟩))) (dw (α:=StmT) (j:=((ah (Int.tdiv at_ 2) (Q T):Nat):Int)) V V V V (OS.sv f9 f4.G5 (i:=10) V) (vyV) (vyV)) (ef (id:= .s (qB.map Prod.fst)) (jS (α:=StmT) (j:=ah (Int.tdiv at_ 2) (Q T)) (off:=0) (q:=10) co f9 f4.G5 V V V V V V V V (aT (x:=n_) (vyV)) V (fX (F:=se) (Y:=co) (cl:=[co.j,(tX co.pp.b),(tX co.K.b),co.n,co.G2.j,co.G2.n,(tX co.G2.pp.b),co.G2.op,(S_ hT co.G2.I hV),co.val.j,co.val.n,(tX co.val.pp.b),co.val.op,(S_ hB co.val.I hI),(S_ hC co.y hJ),(S_ hD co.G4 hK),(S_ hF co.G7 hQ)]) (StmT.mkr ⟨hT,hV,hB,hI,hC,hJ,hD,hK,hF,hQ,V,by exact vyV,by exact vyV,by exact vyV,by exact vyV,by exact vyV,by exact vyV,by exact vyV,by exact vyV,ma,k7,k8,k9,ll⟩))) V (by rintro _ _ tZ ⟨h3,_,hwr⟩;exact lF (dl V V (Wr.did hwr))) (kb V) ?_);rintro _ sw tZ ⟨h3,hw,_⟩ r3 qh;replace hw:=HS.lg hw f4 qh;generalize ({sw with log:=r3}:Heap)=uU at hw⊢;have uz:=OS.len' h3;refine aQ 0 V ?_;have⟨v7,ez,ri,h5,vm⟩:=OS.Gi h3 hw (i:=10) V;replace hA_:=(hA_.ac d7).ac ez;replace Z:=(Z.ac d7).ac ez;replace a2:=(a2.ac d7).ac ez;replace al:=(al.ac d7).ac ez;replace a3:=(a3.ac d7).ac ez;replace an:=(an.ac d7).ac ez;replace a4:=(a4.ac d7).ac ez;replace ax:=(ax.ac d7).ac ez;replace h5:=SR.norm h5;have m9:=lR (k:=120) (show(ah (Int.tdiv at_ 2) (Q T))<(Q T) by omega) (by assumption:bkS co<=_);have yw:=(kz (T.set (ah (Int.tdiv at_ 2) (Q T)) co)).1;exact c5 _ _ ⟨aA,kA,la,pA,[102],b3,b5,bw,c3,b6,b8,b2,c4,hA,hH,T.set (ah (Int.tdiv at_ 2) (Q T)) co,d2,O,b7,b9,[103],a8,bf,bt,pp1,a7,bb,bn,c0,a6,ba,a5,pb1,E,a9,bl,_,(fT (d7) ez),(by simp only[S_,a0u,a0o];exact(HS.sub ri (a06 _ _))),(.inl hA_),(.inl a3),(.inl a2),(.inr h5),(vyV),(vyV),(vyV),a4,(.inl an),(.inl al),(.inl Z),(vyV),(vyV),(vyV),ax,f_,(vyE)⟩
   exact c5 _ _ ⟨aA,kA,la,pA,[102],b3,b5,bw,c3,b6,b8,b2,c4,ch,ci,T,d2,O,b7,b9,[103],a8,bf,bt,pp1,a7,bb,bn,c0,a6,ba,a5,pb1,E,a9,bl,_,fR,cL,(.inl hA_),(.inl a3),(.inl a2),(.inl b0),(vyV),(vyV),(vyV),a4,(.inl an),(.inl al),(.inl Z),(vyV),(vyV),(vyV),ax,f_,(vyE)⟩
  refine wT 1 [] 250 251 [] [(250,(((ah ar 24:Nat):Int)==17))] V λ_=>zI 0 1 (λsY=>?_) λsY=>?_
  ·have⟨v8,e0,rj,h6,vn⟩:=OS.Gi a3 cL (i:=2) V;have a2:=a2.ac e0;have⟨v9,e1,rk,h7,vp⟩:=OS.Gi a2 rj (i:=3) V;replace b0:=(b0.ac e0).ac e1;have⟨wb,e2,rl,h8,vr⟩:=OS.Gi b0 rk (i:=7) V;replace an:=((an.ac e0).ac e1).ac e2;have⟨wc,e3,rm,h9,vt⟩:=OS.Gi an rl (i:=4) V;replace al:=(((al.ac e0).ac e1).ac e2).ac e3;have⟨wd,e4,rn,ia,vu⟩:=OS.Gi al rm (i:=5) V;replace Z:=((((Z.ac e0).ac e1).ac e2).ac e3).ac e4;have⟨p2,e5,pl,q3,vv⟩:=OS.Gi Z rn (i:=8) V;replace hA_:=(((((hA_.ac e0).ac e1).ac e2).ac e3).ac e4).ac e5;replace h6:=((((h6.ac e1).ac e2).ac e3).ac e4).ac e5;replace h7:=(((h7.ac e2).ac e3).ac e4).ac e5;replace h8:=((h8.ac e3).ac e4).ac e5;replace h9:=(h9.ac e4).ac e5;have ia:=ia.ac e5;replace a4:=(((((a4.ac e0).ac e1).ac e2).ac e3).ac e4).ac e5;replace ax:=(((((ax.ac e0).ac e1).ac e2).ac e3).ac e4).ac e5;let r9:Fp:=(fP bF [(tX [102]),(S_ b3 bw b5),(S_ b6 b2 b8),(S_ ch T ci),O.j,O.n,(tX O.pp.b),O.op,(S_ b7 O.I b9),(tX [103]),(S_ a8 bt bf),(S_ a7 bn bb),(S_ a6 a5 ba),E.j,E.n,(tX E.pp.b),E.op,(S_ a9 E.I bl)])
   have qU:OS p2 (sL (some ⟨bF,0,none⟩) 2 2) ([(⟨⟨[102]⟩,bw,b2,T,(⟨O.j,O.n,⟨O.pp.b⟩,O.op,O.I⟩:ExpT)⟩:FunT),(⟨⟨[103]⟩,bt,bn,a5,(⟨E.j,E.n,⟨E.pp.b⟩,E.op,E.I⟩:ExpT)⟩:FunT)]:List FunT) r9:=nI (b:=bF) (α:=FunT) (l:=([(⟨⟨[102]⟩,bw,b2,T,(⟨O.j,O.n,⟨O.pp.b⟩,O.op,O.I⟩:ExpT)⟩:FunT),(⟨⟨[103]⟩,bt,bn,a5,(⟨E.j,E.n,⟨E.pp.b⟩,E.op,E.I⟩:ExpT)⟩:FunT)]:List FunT)) (show RL p2 [(tX [102]),(S_ b3 bw b5),(S_ b6 b2 b8),(S_ ch T ci),O.j,O.n,(tX O.pp.b),O.op,(S_ b7 O.I b9),(tX [103]),(S_ a8 bt bf),(S_ a7 bn bb),(S_ a6 a5 ba),E.j,E.n,(tX E.pp.b),E.op,(S_ a9 E.I bl)] ([(⟨⟨[102]⟩,bw,b2,T,(⟨O.j,O.n,⟨O.pp.b⟩,O.op,O.I⟩:ExpT)⟩:FunT),(⟨⟨[103]⟩,bt,bn,a5,(⟨E.j,E.n,⟨E.pp.b⟩,E.op,E.I⟩:ExpT)⟩:FunT)]:List FunT) from⟨[(tX [102]),(S_ b3 bw b5),(S_ b6 b2 b8),(S_ ch T ci),O.j,O.n,(tX O.pp.b),O.op,(S_ b7 O.I b9)],[(tX [103]),(S_ a8 bt bf),(S_ a7 bn bb),(S_ a6 a5 ba),E.j,E.n,(tX E.pp.b),E.op,(S_ a9 E.I bl)],V,⟨b3,b5,b6,b8,ch,ci,b7,b9,V,by exact vyV,by exact vyV,by exact vyV,h6,h7,h8,a4⟩,⟨[(tX [103]),(S_ a8 bt bf),(S_ a7 bn bb),(S_ a6 a5 ba),E.j,E.n,(tX E.pp.b),E.op,(S_ a9 E.I bl)],[],V,⟨a8,bf,a7,bb,a6,ba,a9,bl,V,by exact vyV,by exact vyV,by exact vyV,h9,ia,q3,ax⟩,V⟩⟩);refine az V (cC 2 252 253 [] [(253,(sL (some ⟨bF,0,none⟩) (Q ([(⟨⟨[102]⟩,bw,b2,T,(⟨O.j,O.n,⟨O.pp.b⟩,O.op,O.I⟩:ExpT)⟩:FunT),(⟨⟨[103]⟩,bt,bn,a5,(⟨E.j,E.n,⟨E.pp.b⟩,E.op,E.I⟩:ExpT)⟩:FunT)]:List FunT)) 2))] (Hr_ 1 9 Hn_) pl V V λ_=>zld oj pl V j_ V λxb xH xS qL o9 hx=>?_);have u2:=aF (Int.tdiv ar 24) 2;have⟨uX,rR⟩:=Sv.Gg (OS.sv o9 hx (i:=10) V);refine cC 5 255 259 [] [(259,(aG [(tX (Y oj (ah (Int.tdiv ar 24) 2) n_).b),N_,N_,N_,(iI 0),(iI 0),(tX []),(iI 0),N_]))] (Hc_ 4 (ga.aE ex (Int.tdiv ar 24) 2 {qL with log:=[]} (vyV)) (Ha_ (Sv.ix (j:=((ah (Int.tdiv ar 24) 2:Nat):Int)) (OS.sv o9 hx (i:=10) rfl) (vyV) (show((ah (Int.tdiv ar 24) 2:Nat):Int)<(2:Int) from by exact vyV)) (Hl_ 6 (ql 9 0 (hc0 (vS (rR (ah (Int.tdiv ar 24) 2)) (show ah (Int.tdiv ar 24) 2<2 from by exact vyV))) rfl rfl) Hn_))) hx rfl rfl λ_=>zld ([(⟨⟨(Y oj (ah (Int.tdiv ar 24) 2) n_).b⟩,iW,iW,kr,zKP7⟩:FunT)]:List FunT) hx rfl (RL.cs ⟨none,0,none,0,none,0,none,0,rfl,by exact vyV,by exact vyV,by exact vyV,SR.nil,SR.nil,SR.nil,SR.nil⟩ RL.nl) rfl λxc xI xT uV qV kx=>kv (id:= .x ((r9:Fp).map Prod.fst)) (rs_app (α:=FunT) (q:=6) qU kx.G5 rfl rfl rfl (OS.sv qV kx.G5 (i:=11) rfl) rfl rfl rfl rfl rfl rfl rfl (vyA)) rfl rfl (by rintro _ _ t0 ⟨p4,qv,rfl,hp,_,hwr⟩;exact dl V V (Wr.did hwr)) (kb V) ?_
   rintro _ sx t0 ⟨p4,qv,rfl,hp,hy,_⟩ r4 qi;replace hy:=HS.lg hy kx qi;generalize ({sx with log:=r4}:Heap)=uW at hy⊢;refine sdo 2 262 262 [] [] (Hr_ 11 9 Hn_) hy V V λu7 wJ rq=>aQ 0 V (aj 3 V (sgr 1 284 284 [] [] (Hr_ 0 9 (Hr_ 1 0 Hn_)) rq V V λu9 wK rr=>?_))
   have⟨we,n5,rv,ik,vx⟩:=OS.Gi hA_ rr (i:=1) V;have hp:=hp.ac n5;have⟨wg,n6,pm,q4,vy⟩:=OS.Gi hp rv (i:=6) V;have ik:=ik.ac n6;refine ag ⟨.inr V,_,(rC V (bV V V (h_ pm V) V) rN),(⟨la,([(⟨⟨[102]⟩,bw,b2,T,(⟨O.j,O.n,⟨O.pp.b⟩,O.op,O.I⟩:ExpT)⟩:FunT),(⟨⟨[103]⟩,bt,bn,a5,(⟨E.j,E.n,⟨E.pp.b⟩,E.op,E.I⟩:ExpT)⟩:FunT)]:List FunT)++([(⟨⟨(Y oj (ah (Int.tdiv ar 24) 2) n_).b⟩,iW,iW,kr,zKP7⟩:FunT)]:List FunT)⟩:PrgT),aA,kA,p4,qv,_,(fT (fT (fT (fT (fT (fT (fT (fT (p8) e0) e1) e2) e3) e4) e5) n5) n6),(HS.G3 pm),V,ik,q4,(vyE)⟩
  refine wT 1 [] 263 264 [] [(263,(((ah ar 24:Nat):Int)==18))] V λ_=>zI 1 0 (λsZ=>?_) λsZ=>?_
  ·have⟨wh,e6,rx,it,vz⟩:=OS.Gi a3 cL (i:=2) V;have a2:=a2.ac e6;have⟨wi,e7,ry,iv,vB⟩:=OS.Gi a2 rx (i:=3) V;replace b0:=(b0.ac e6).ac e7;have⟨wl,e8,rz,i0,vC⟩:=OS.Gi b0 ry (i:=7) V;replace an:=((an.ac e6).ac e7).ac e8;have⟨wn,fb,rA,i1,vD⟩:=OS.Gi an rz (i:=4) V;replace al:=(((al.ac e6).ac e7).ac e8).ac fb;have⟨wo,fd,rB,i2,vE⟩:=OS.Gi al rA (i:=5) V;replace Z:=((((Z.ac e6).ac e7).ac e8).ac fb).ac fd;have⟨lr,fi,rD,q5,vF⟩:=OS.Gi Z rB (i:=8) V;replace it:=((((it.ac e7).ac e8).ac fb).ac fd).ac fi;replace iv:=(((iv.ac e8).ac fb).ac fd).ac fi;replace i0:=((i0.ac fb).ac fd).ac fi;replace i1:=(i1.ac fd).ac fi;have i2:=i2.ac fi;replace a4:=(((((a4.ac e6).ac e7).ac e8).ac fb).ac fd).ac fi;replace ax:=(((((ax.ac e6).ac e7).ac e8).ac fb).ac fd).ac fi;let sa:Fp:=(fP bF [(tX [102]),(S_ b3 bw b5),(S_ b6 b2 b8),(S_ ch T ci),O.j,O.n,(tX O.pp.b),O.op,(S_ b7 O.I b9),(tX [103]),(S_ a8 bt bf),(S_ a7 bn bb),(S_ a6 a5 ba),E.j,E.n,(tX E.pp.b),E.op,(S_ a9 E.I bl)])
   have qW:OS lr (sL (some ⟨bF,0,none⟩) 2 2) ([(⟨⟨[102]⟩,bw,b2,T,(⟨O.j,O.n,⟨O.pp.b⟩,O.op,O.I⟩:ExpT)⟩:FunT),(⟨⟨[103]⟩,bt,bn,a5,(⟨E.j,E.n,⟨E.pp.b⟩,E.op,E.I⟩:ExpT)⟩:FunT)]:List FunT) sa:=nI (b:=bF) (α:=FunT) (l:=([(⟨⟨[102]⟩,bw,b2,T,(⟨O.j,O.n,⟨O.pp.b⟩,O.op,O.I⟩:ExpT)⟩:FunT),(⟨⟨[103]⟩,bt,bn,a5,(⟨E.j,E.n,⟨E.pp.b⟩,E.op,E.I⟩:ExpT)⟩:FunT)]:List FunT)) (show RL lr [(tX [102]),(S_ b3 bw b5),(S_ b6 b2 b8),(S_ ch T ci),O.j,O.n,(tX O.pp.b),O.op,(S_ b7 O.I b9),(tX [103]),(S_ a8 bt bf),(S_ a7 bn bb),(S_ a6 a5 ba),E.j,E.n,(tX E.pp.b),E.op,(S_ a9 E.I bl)] ([(⟨⟨[102]⟩,bw,b2,T,(⟨O.j,O.n,⟨O.pp.b⟩,O.op,O.I⟩:ExpT)⟩:FunT),(⟨⟨[103]⟩,bt,bn,a5,(⟨E.j,E.n,⟨E.pp.b⟩,E.op,E.I⟩:ExpT)⟩:FunT)]:List FunT) from⟨[(tX [102]),(S_ b3 bw b5),(S_ b6 b2 b8),(S_ ch T ci),O.j,O.n,(tX O.pp.b),O.op,(S_ b7 O.I b9)],[(tX [103]),(S_ a8 bt bf),(S_ a7 bn bb),(S_ a6 a5 ba),E.j,E.n,(tX E.pp.b),E.op,(S_ a9 E.I bl)],V,⟨b3,b5,b6,b8,ch,ci,b7,b9,V,by exact vyV,by exact vyV,by exact vyV,it,iv,i0,a4⟩,⟨[(tX [103]),(S_ a8 bt bf),(S_ a7 bn bb),(S_ a6 a5 ba),E.j,E.n,(tX E.pp.b),E.op,(S_ a9 E.I bl)],[],V,⟨a8,bf,a7,bb,a6,ba,a9,bl,V,by exact vyV,by exact vyV,by exact vyV,i1,i2,q5,ax⟩,V⟩⟩);refine wT 2 [] 1 0 [16] [(16,(iI 0))] V λ_=>ak (λ(mm:Nat) f H'=> ∃(fz:List FunT) (j:Nat),∃g5 c9,∃(d1:Nat),∃F',lr.le F'/\Hb H F' H' [hS,pA,[],[],[],[],g5,[],[],(fP b4 [(S_ aA la kA),(S_ c9 fz d1)])] R/\OZ F' c9 fz d1 g5/\aI f [(6,(pT b1 0)),(7,(pT b4 0)),(9,(Int.tdiv ar 24)),(16,(j:Int))]/\mm=8-j/\(bkFs fz<=12000+80 *j)/\(j<=8)) _ ⟨([(⟨⟨[102]⟩,bw,b2,T,(⟨O.j,O.n,⟨O.pp.b⟩,O.op,O.I⟩:ExpT)⟩:FunT),(⟨⟨[103]⟩,bt,bn,a5,(⟨E.j,E.n,⟨E.pp.b⟩,E.op,E.I⟩:ExpT)⟩:FunT)]:List FunT),0,(sa:Fp),(some ⟨bF,0,none⟩),2,_,fR,rD,qW,f_,V,(vyE),(vyE)⟩ ?_
   rintro v2 xn sC ⟨fz,j,g5,c9,d1,wq,hX,k0,f5,o6,rfl,hb,hj⟩ rW;refine aw _ o6 (λ_=>?_);clear o6;replace hA_:=((((((hA_.ac e6).ac e7).ac e8).ac fb).ac fd).ac fi).ac hX;have yz:=iS fz;refine aj 2 V ?_;have u3:=aF (Int.tdiv ar 24) 8;refine wU 1 [(2,.o (iI ((ah (Int.tdiv ar 24) 8:Nat):Int)))] 265 268 [] [(268,(decide ((j:Int)<((ah (Int.tdiv ar 24) 8:Nat):Int))))] (ga.aE ex (Int.tdiv ar 24) 8 sC (vyV)) V λ_=>zd 3 3 (λs0=>?_) λs0=>?_
   ·refine ab (cS 5 0 271 275 [] [(272,(S_ c9 fz d1)),(275,(.int .u8 (97+(j:Int))))] (Hr_ 1 9 (Ha_ (vi (n:=97+(j:Int)) (vyV)) (Ha_ (vb (n:=97+(j:Int)) (vyV)) Hn_))) k0 V V λ_=>zlo [(UInt8.ofNat (97+j))] k0 V (RL.cs (u8r (n:=97+j) (vyV)) RL.nl) V λxd xJ xU wL qX pv=>ad (v:=(tX [(UInt8.ofNat (97+j))])) (oi V V V V (OS.sv qX pv (i:=10) V)) V V (cu 3 7 278 280 [] [(280,(aG [(tX ([104]++[(UInt8.ofNat (97+j))])),N_,N_,N_,(iI 1),(iI 0),(tX []),(iI 0),N_]))] (Ha_ (show([104]:List UInt8).length+Q ([(UInt8.ofNat (97+j))]:List UInt8)<=1099511627776 from by exact vyV) Hn_) K_ V λ_=>zlo ([(⟨⟨[104]++[(UInt8.ofNat (97+j))]⟩,iW,iW,kr,zKP8⟩:FunT)]:List FunT) pv V (RL.cs ⟨none,0,none,0,none,0,none,0,V,by exact vyV,by exact vyV,by exact vyV,SR.nil,SR.nil,SR.nil,SR.nil⟩ RL.nl) V λxe xK xV wM qY px=>?_));refine zao 6 f5 px (OS.sv qY px (i:=11) V) V V V (vyA) λsI tU t1 wN qZ rE=>sgo 2 12 283 283 [] [] (Hr_ 13 9 Hn_) rE V V λva wO rF=>ai 2 V (wU 1 [] 269 270 [16] [(16,(iI ((j:Int)+1)))] (vi (n:=(j:Int)+1) (vyV)) V λ_=>?_)
    refine rW _ _ _ ?_ ⟨fz++([(⟨⟨[104]++[(UInt8.ofNat (97+j))]⟩,iW,iW,kr,zKP8⟩:FunT)]:List FunT),j+1,t1,sI,tU,_,(hX),(HS.sub rF (a06 _ _)),qZ,f_,V,(vyE),(vyE)⟩;omega
   refine aj 3 V (sgr 1 284 284 [] [] (Hr_ 0 9 (Hr_ 1 0 Hn_)) k0 V V λvc wP rG=>?_);have⟨wt,n7,rH,i3,vG⟩:=OS.Gi hA_ rG (i:=1) V;have f5:=f5.ac n7;have⟨wu,oo,pS,q6,vH⟩:=OS.Gi f5 rH (i:=6) V;have i3:=i3.ac oo;refine ag ⟨.inr V,_,(rC V (bV V V (h_ pS V) V) rN),(⟨la,fz⟩:PrgT),aA,kA,c9,d1,_,(fT (fT (fT (fT (fT (fT (fT (fT (fT (p8) e6) e7) e8) fb) fd) fi) hX) n7) oo),(HS.G3 pS),V,i3,q6,(vyE)⟩
  exact c5 _ _ ⟨aA,kA,la,pA,[102],b3,b5,bw,c3,b6,b8,b2,c4,ch,ci,T,d2,O,b7,b9,[103],a8,bf,bt,pp1,a7,bb,bn,c0,a6,ba,a5,pb1,E,a9,bl,_,fR,cL,(.inl hA_),(.inl a3),(.inl a2),(.inl b0),(vyV),(vyV),(vyV),a4,(.inl an),(.inl al),(.inl Z),(vyV),(vyV),(vyV),ax,f_,(vyE)⟩
 skip;clear hA_ a3 a2 b0 s1 s3 s5 a4 an al Z s2 s4 s6 ax;rintro yh x0 ⟨aA,kA,jA,pA,jn0,b3,b5,g7,c3,b6,b8,jl0,c4,ch,ci,g6,d2,a1,b7,b9,jn1,a8,bf,g3,pp1,a7,bb,g2,c0,a6,ba,g1,pb1,U,a9,bl,xW,s7,tz,jhA,tR,m0,mv,vT,vU,vV,n1,nn,nc,mx,vW,vX,vY,n2,p9,hbd⟩;refine aw _ p9 (λ_=>?_);clear p9;refine aj 3 V ?_;have⟨wv,fk,rI,i9,vJ⟩:=SO.Gi tR tz (i:=2) V;have m0:=m0.ac fk;have⟨ww,fq,rJ,jw,vK⟩:=SO.Gi m0 rI (i:=3) V;replace mv:=(mv.ac fk).ac fq;have⟨wx,fu,rK,j1,vM⟩:=SO.Gi mv rJ (i:=7) V;replace nn:=((nn.ac fk).ac fq).ac fu;have⟨wy,f1,rL,j2,vN⟩:=SO.Gi nn rK (i:=4) V;replace nc:=(((nc.ac fk).ac fq).ac fu).ac f1;have⟨wz,f2,rM,kd,vO⟩:=SO.Gi nc rL (i:=5) V;replace mx:=((((mx.ac fk).ac fq).ac fu).ac f1).ac f2;have⟨p3,f3,rO,q7,vP⟩:=SO.Gi mx rM (i:=8) V;replace i9:=((((i9.ac fq).ac fu).ac f1).ac f2).ac f3;replace jw:=(((jw.ac fu).ac f1).ac f2).ac f3;replace j1:=((j1.ac f1).ac f2).ac f3;replace j2:=(j2.ac f2).ac f3;have kd:=kd.ac f3;replace jhA:=(((((jhA.ac fk).ac fq).ac fu).ac f1).ac f2).ac f3;replace n1:=(((((n1.ac fk).ac fq).ac fu).ac f1).ac f2).ac f3;replace n2:=(((((n2.ac fk).ac fq).ac fu).ac f1).ac f2).ac f3;have h4:OS p3 (sL (some ⟨bF,0,none⟩) 2 2) ([(⟨⟨jn0⟩,g7,jl0,g6,(⟨a1.j,a1.n,⟨a1.pp.b⟩,a1.op,a1.I⟩:ExpT)⟩:FunT),(⟨⟨jn1⟩,g3,g2,g1,(⟨U.j,U.n,⟨U.pp.b⟩,U.op,U.I⟩:ExpT)⟩:FunT)]:List FunT) (fP bF [(tX jn0),(S_ b3 g7 b5),(S_ b6 jl0 b8),(S_ ch g6 ci),a1.j,a1.n,(tX a1.pp.b),a1.op,(S_ b7 a1.I b9),(tX jn1),(S_ a8 g3 bf),(S_ a7 g2 bb),(S_ a6 g1 ba),U.j,U.n,(tX U.pp.b),U.op,(S_ a9 U.I bl)]):=nI (b:=bF) (α:=FunT) (l:=([(⟨⟨jn0⟩,g7,jl0,g6,(⟨a1.j,a1.n,⟨a1.pp.b⟩,a1.op,a1.I⟩:ExpT)⟩:FunT),(⟨⟨jn1⟩,g3,g2,g1,(⟨U.j,U.n,⟨U.pp.b⟩,U.op,U.I⟩:ExpT)⟩:FunT)]:List FunT)) (show RL p3 [(tX jn0),(S_ b3 g7 b5),(S_ b6 jl0 b8),(S_ ch g6 ci),a1.j,a1.n,(tX a1.pp.b),a1.op,(S_ b7 a1.I b9),(tX jn1),(S_ a8 g3 bf),(S_ a7 g2 bb),(S_ a6 g1 ba),U.j,U.n,(tX U.pp.b),U.op,(S_ a9 U.I bl)] ([(⟨⟨jn0⟩,g7,jl0,g6,(⟨a1.j,a1.n,⟨a1.pp.b⟩,a1.op,a1.I⟩:ExpT)⟩:FunT),(⟨⟨jn1⟩,g3,g2,g1,(⟨U.j,U.n,⟨U.pp.b⟩,U.op,U.I⟩:ExpT)⟩:FunT)]:List FunT) from⟨[(tX jn0),(S_ b3 g7 b5),(S_ b6 jl0 b8),(S_ ch g6 ci),a1.j,a1.n,(tX a1.pp.b),a1.op,(S_ b7 a1.I b9)],[(tX jn1),(S_ a8 g3 bf),(S_ a7 g2 bb),(S_ a6 g1 ba),U.j,U.n,(tX U.pp.b),U.op,(S_ a9 U.I bl)],V,⟨b3,b5,b6,b8,ch,ci,b7,b9,V,by exact vyV,by exact vyV,by exact vyV,i9,jw,j1,n1⟩,⟨[(tX jn1),(S_ a8 g3 bf),(S_ a7 g2 bb),(S_ a6 g1 ba),U.j,U.n,(tX U.pp.b),U.op,(S_ a9 U.I bl)],[],V,⟨a8,bf,a7,bb,a6,ba,a9,bl,V,by exact vyV,by exact vyV,by exact vyV,j2,kd,q7,n2⟩,V⟩⟩);refine sgr 1 284 284 [] [] (Hr_ 0 9 (Hr_ 1 0 Hn_)) rO V V λvd wQ rP=>?_
 have⟨wA,ox,rQ,ki,vQ⟩:=SO.Gi jhA rP (i:=1) V;have h4:=h4.ac ox;have⟨wB,o0,pU,q8,vR⟩:=OS.Gi h4 rQ (i:=6) V;have ki:=ki.ac o0;refine ag ⟨.inr V,_,(rC V (bV V V (h_ pU V) V) rN),(⟨jA,([(⟨⟨jn0⟩,g7,jl0,g6,(⟨a1.j,a1.n,⟨a1.pp.b⟩,a1.op,a1.I⟩:ExpT)⟩:FunT),(⟨⟨jn1⟩,g3,g2,g1,(⟨U.j,U.n,⟨U.pp.b⟩,U.op,U.I⟩:ExpT)⟩:FunT)]:List FunT)⟩:PrgT),aA,kA,(some ⟨bF,0,none⟩),2,_,(fT (fT (fT (fT (fT (fT (fT (fT (fT (p8) s7) fk) fq) fu) f1) f2) f3) ox) o0),(HS.G3 pU),V,ki,q8,(vyE)⟩
theorem mprog1_c{zT z9}(l:List Int)(ar:Int)(at_:Int)(hs:Hb H F H [] R)(hl:Sr F zT l z9)(Bq:in64 ar)(Bp:in64 at_)(hz:ah at_ 2=1):kKt ex 7 [(S_ zT l z9),ar,at_] H λv H'=> ∃(x:PrgT),∃p6,∃(qx:Nat),∃p7,∃(qy:Nat),∃F',F.le F'/\Hb H F' H' [] R/\v= .agg ⟨[sL p6 (Q x.d) qx,sL p7 (Q x.U) qy]⟩/\Sr F' p6 x.d qx/\Sr F' p7 x.U qy/\(bkP x<=20000):=by
 refine ay Tryz.func7 V V (aj 1 V (ab (zn hs V λb1 H2 r7=>ai 2 V (ab ?_))));refine zm (S_ zT l z9) (zc (gprogr_c ex l (HS.call r7) hl) ?_);rintro _ H3 ⟨aA,kA,la,pA,b5,ch,bw,c4,b3,b9,bt,c3,a6,a7,a5,pp1,a9,bb,a8,dn,bF,b0,b7,bl,c0,O,b6,ci,b2,b8,T,pb1,E,ba,bf,F3,p8,qp,rfl,hA_,a3,al,Z,s1,s3,s5,ax,an,a2,bn,s2,s4,s6,a4,qA_,qG,qE,qC,qI,qH,qF,qD,qJ⟩;replace qp:=HS.G8 r7 V qp;refine zn qp V λb4 H5 uA=>sgo 1 3 1 0 [] [] (Hr_ 3 9 Hn_) uA V V λyk H6 cL=>ai 2 V ?_
 have zA:lj la<=62:=by rw[qA_];exact bk_fs
 have zB:Q la=2:=by rw[qA_];rfl
 have yR:bkN bw<=6:=by rw[qG];decide
 have yN:=cY bw;have yP:bkN bt<=6:=by rw[qE];decide
 have yL:=cY bt;have yJ:=gf bl;have yT:=kz bl;have yS:bkN a5<=6:=by rw[qH];decide
 have yO:=cY a5;have yQ:bkN a8<=6:=by rw[qF];decide
 have yM:=cY a8;have yK:=gf T;have yU:=kz T;have zj:cN bl+bkE O+cN T+bkE E<=10320:=by rw[qC,qI,qD,qJ];exact bk_all l
 have m1:= @nP1 (ah (ar.tdiv 24) 6);have m2:= @nP2 (ah (ar.tdiv 24) 6);have m3:= @nP3 (ah (ar.tdiv 24) 5);have m6:= @nP6 (ah (ar.tdiv 24) 5);have m7:= @nP7 (ah (ar.tdiv 24) 2);clear qA_ qG qE qC qI qH qF qD qJ;refine sdr0 2 19 23 [8] [(8,(pT bF 9))] (Hr_ 1 9 (Ho_ 3 (.o (iI 1)) (pk2 ex hz {H6 with log:=[]}) (Ha_ (ixR (j:=1) e_) Hn_))) cL rfl rfl rfl λ_=>?_
 have yI:in64 ar->in64 (Int.tdiv ar 24):=λh=>vq h e_
 refine wU 3 [] 24 25 [9] [(9,(Int.tdiv ar 24))] (vA (show(24:Int)≠0 from by decide) (vq (a:=ar) (b:=24) (vyV) e_)) V λ_=>?_
 have xo:=aF ar 24;let hS:Fp:=(fP b1 [N_,N_])
 refine wU 3 [(1,.o (iI ((ah ar 24:Nat):Int)))] 26 27 [] [(27,((ah ar 24:Nat):Int))] (ga.aE ex ar 24 H6 (vyV)) V λ_=>wT 1 [] 28 29 [] [(28,(((ah ar 24:Nat):Int)==1))] V λ_=>jg (λf H'=> ∃aA,∃(kA:Nat) (jA:List ArrT),∃pA,∃(jn0:List UInt8),∃b5,∃(ch:Nat) (g7:List Str),∃c4 b3,∃(b9:Nat) (jl0:List Str),∃c3 b0,∃(b7:Nat) (g6:List StmT),∃c0,∃(a1:ExpT),∃b6,∃(ci:Nat) (jn1:List UInt8),∃a6,∃(a7:Nat) (g3:List Str),∃pp1 a9,∃(bb:Nat) (g2:List Str),∃dn b2,∃(b8:Nat) (g1:List StmT),∃pb1,∃(U:ExpT),∃ba,∃(bf:Nat),∃F',F3.le F'/\Hb H F' H' [hS,pA,c4,c3,pp1,dn,(fP bF [(tX jn0),(S_ b5 g7 ch),(S_ b3 jl0 b9),(S_ b0 g6 b7),a1.j,a1.n,(tX a1.pp.b),a1.op,(S_ b6 a1.I ci),(tX jn1),(S_ a6 g3 a7),(S_ a9 g2 bb),(S_ b2 g1 b8),U.j,U.n,(tX U.pp.b),U.op,(S_ ba U.I bf)]),c0,pb1,(fP b4 [(S_ aA jA kA),(sL (some ⟨bF,0,none⟩) 2 2)])] R/\SO F' (S_ aA jA kA) jA pA/\SO F' (S_ b5 g7 ch) g7 c4/\SO F' (S_ b3 jl0 b9) jl0 c3/\SO F' (S_ b0 g6 b7) g6 c0/\in64 a1.j/\in64 a1.n/\in64 a1.op/\Sr F' b6 a1.I ci/\SO F' (S_ a6 g3 a7) g3 pp1/\SO F' (S_ a9 g2 bb) g2 dn/\SO F' (S_ b2 g1 b8) g1 pb1/\in64 U.j/\in64 U.n/\in64 U.op/\Sr F' ba U.I bf/\aI f [(6,(pT b1 0)),(7,(pT b4 0))]/\lj jA+((50+Q jn0+bkN g7+bkN jl0+uSs g6+bkE a1)+(50+Q jn1+bkN g3+bkN g2+uSs g1+bkE U))<=20000) (λdt=>?_) ?_
 ·refine zI 0 1 (λuf=>?_) λuf=>?_
  ·refine ab (zm (pT bF 9) (zlo zKP5 cL V j_ V λx8 yl yx t7 qj mf=>?_));have xp:=aF (Int.tdiv ar 24) 6;have⟨xf,tK⟩:=Sv.Gg (OS.sv qj mf (i:=10) V);refine sgo 7 2 32 37 [] [] (Hc_ 3 (ga.aE ex (Int.tdiv ar 24) 6 t7 (vyV)) (Ha_ (Sv.ix (j:=((ah (Int.tdiv ar 24) 6:Nat):Int)) (OS.sv qj mf (i:=10) V) (vyV) (show((ah (Int.tdiv ar 24) 6:Nat):Int)<(6:Int) from by exact vyV)) (Hl_ 5 (ql 9 0 (vS (tK (ah (Int.tdiv ar 24) 6)) (show ah (Int.tdiv ar 24) 6<6 from by exact vyV)) V V) (Hr_ 8 6 Hn_)))) mf V V λxx x1 tA=>ai 0 V ?_
   exact dt _ _ ⟨aA,kA,la,pA,[102],b5,ch,bw,c4,b3,b9,bt,c3,b0,b7,bl,c0,O,b6,ci,(Y zKP5 (ah (Int.tdiv ar 24) 6) n_).b,a6,a7,a5,pp1,a9,bb,a8,dn,b2,b8,T,pb1,E,ba,bf,_,fR,(HS.sub tA (a06 _ _)),(.inl hA_),(.inl a3),(.inl al),(.inl Z),(vyV),(vyV),(vyV),ax,(.inl an),(.inl a2),(.inl bn),(vyV),(vyV),(vyV),a4,f_,(vyE)⟩
  refine wT 1 [] 38 39 [] [(38,(((ah ar 24:Nat):Int)==2))] V λ_=>zI 0 1 (λug=>?_) λug=>?_
  ·refine az V (cC 5 40 44 [] [(40,(pT bF 9)),(44,(S_ a6 a5 a7))] (Hr_ 4 6 Hn_) cL V V λ_=>zld zKP3 cL V j_ V λx9 ym yy sD qk k3=>?_);have xq:=aF (Int.tdiv ar 24) 6;have⟨xg,tL⟩:=Sv.Gg (OS.sv qk k3 (i:=10) V);refine cC 4 46 49 [] [(49,(tX (Y zKP3 (ah (Int.tdiv ar 24) 6) n_).b))] (Hc_ 7 (ga.aE ex (Int.tdiv ar 24) 6 {sD with log:=[]} (vyV)) (Ha_ (Sv.ix (j:=((ah (Int.tdiv ar 24) 6:Nat):Int)) (OS.sv qk k3 (i:=10) rfl) (vyV) (show((ah (Int.tdiv ar 24) 6:Nat):Int)<(6:Int) from by exact vyV)) (Hl_ 9 (ql 9 0 (hc0 (vS (tL (ah (Int.tdiv ar 24) 6)) (show ah (Int.tdiv ar 24) 6<6 from by exact vyV))) rfl rfl) Hn_))) k3 rfl rfl λ_=>zld ([⟨(Y zKP3 (ah (Int.tdiv ar 24) 6) n_).b⟩]:List Str) k3 rfl (RL.cs rfl RL.nl) rfl λya yn yA wV th qq=>zad 4 an qq (OS.sv th qq (i:=11) rfl) rfl rfl rfl (vyA) (kb rfl) λub uB uF wW ti tB=>sdo 3 52 53 [] [] (Hr_ 14 6 Hn_) tB rfl rfl λxy x2 tC=>aQ 0 rfl ?_
   exact dt _ _ ⟨aA,kA,la,pA,[102],b5,ch,bw,c4,b3,b9,bt,c3,b0,b7,bl,c0,O,b6,ci,[103],ub,uB,a5++([⟨(Y zKP3 (ah (Int.tdiv ar 24) 6) n_).b⟩]:List Str),uF,a9,bb,a8,dn,b2,b8,T,pb1,E,ba,bf,_,fR,(HS.sub tC (a06 _ _)),(.inl hA_),(.inl a3),(.inl al),(.inl Z),(vyV),(vyV),(vyV),ax,(.inl ti),(.inl a2),(.inl bn),(vyV),(vyV),(vyV),a4,f_,(vyE)⟩
  refine wT 1 [] 54 55 [] [(54,(((ah ar 24:Nat):Int)==3))] V λ_=>zI 0 1 (λuh=>?_) λuh=>?_
  ·refine az V (cC 5 56 60 [] [(56,(pT bF 9)),(60,(S_ a9 a8 bb))] (Hr_ 4 6 Hn_) cL V V λ_=>zld zKP4 cL V j_ V λyb yo yB sE qm k4=>?_);have xr:=aF (Int.tdiv ar 24) 5;have⟨xh,tM⟩:=Sv.Gg (OS.sv qm k4 (i:=10) V);refine cC 4 62 65 [] [(65,(tX (Y zKP4 (ah (Int.tdiv ar 24) 5) n_).b))] (Hc_ 7 (ga.aE ex (Int.tdiv ar 24) 5 {sE with log:=[]} (vyV)) (Ha_ (Sv.ix (j:=((ah (Int.tdiv ar 24) 5:Nat):Int)) (OS.sv qm k4 (i:=10) rfl) (vyV) (show((ah (Int.tdiv ar 24) 5:Nat):Int)<(5:Int) from by exact vyV)) (Hl_ 9 (ql 9 0 (hc0 (vS (tM (ah (Int.tdiv ar 24) 5)) (show ah (Int.tdiv ar 24) 5<5 from by exact vyV))) rfl rfl) Hn_))) k4 rfl rfl λ_=>zld ([⟨(Y zKP4 (ah (Int.tdiv ar 24) 5) n_).b⟩]:List Str) k4 rfl (RL.cs rfl RL.nl) rfl λyc yp yC wX tj qr=>zad 5 a2 qr (OS.sv tj qr (i:=11) rfl) rfl rfl rfl (vyA) (kb rfl) λuc uC uG wY tk tD=>sdo 3 68 69 [] [] (Hr_ 14 6 Hn_) tD rfl rfl λxz x3 tE=>aQ 0 rfl ?_
   exact dt _ _ ⟨aA,kA,la,pA,[102],b5,ch,bw,c4,b3,b9,bt,c3,b0,b7,bl,c0,O,b6,ci,[103],a6,a7,a5,pp1,uc,uC,a8++([⟨(Y zKP4 (ah (Int.tdiv ar 24) 5) n_).b⟩]:List Str),uG,b2,b8,T,pb1,E,ba,bf,_,fR,(HS.sub tE (a06 _ _)),(.inl hA_),(.inl a3),(.inl al),(.inl Z),(vyV),(vyV),(vyV),ax,(.inl an),(.inl tk),(.inl bn),(vyV),(vyV),(vyV),a4,f_,(vyE)⟩
  refine wT 1 [] 70 71 [] [(70,(((ah ar 24:Nat):Int)==4))] V λ_=>zI 1 1 (λui=>?_) λui=>?_
  ·refine wT 2 [] 1 0 [10] [(10,(iI 0))] V λ_=>ak (λ(mm:Nat) f H'=> ∃(lz:List Str) (j:Nat),∃f9 d2,∃(d5:Nat),∃F',F3.le F'/\Hb H F' H' [hS,pA,c4,c3,pp1,f9,(fP bF [(tX [102]),(S_ b5 bw ch),(S_ b3 bt b9),(S_ b0 bl b7),O.j,O.n,(tX O.pp.b),O.op,(S_ b6 O.I ci),(tX [103]),(S_ a6 a5 a7),(S_ d2 lz d5),(S_ b2 T b8),E.j,E.n,(tX E.pp.b),E.op,(S_ ba E.I bf)]),c0,pb1,(fP b4 [(S_ aA la kA),(sL (some ⟨bF,0,none⟩) 2 2)])] R/\OZ F' d2 lz d5 f9/\aI f [(6,(pT b1 0)),(7,(pT b4 0)),(8,(pT bF 9)),(9,(Int.tdiv ar 24)),(10,(j:Int))]/\mm=12-j/\(bkN lz<=10+4 *j)/\(j<=12)) _ ⟨a8,0,dn,a9,bb,_,fR,cL,a2,f_,V,(vyE),(vyE)⟩ ?_
   rintro xL yi t8 ⟨lz,j,f9,d2,d5,xX,go,mg,hn,qa,rfl,hb,hj⟩ tO;refine aw _ qa (λ_=>?_);clear qa;have⟨hA_,Z,bn,al,a3,an,ax,a4⟩:=M8 go hA_ Z bn al a3 an ax a4;have yz:=cY lz;refine aj 2 V ?_;have xt:=aF (Int.tdiv ar 24) 12;refine wU 1 [(2,.o (iI ((ah (Int.tdiv ar 24) 12:Nat):Int)))] 72 75 [] [(75,(decide ((j:Int)<((ah (Int.tdiv ar 24) 12:Nat):Int))))] (ga.aE ex (Int.tdiv ar 24) 12 t8 (vyV)) V λ_=>zd 3 3 (λuj=>?_) λuj=>?_
   ·refine az V (cC 8 78 85 [] [(78,(pT bF 9)),(82,(S_ d2 lz d5)),(85,(.int .u8 (97+(j:Int))))] (Hr_ 4 6 (Ha_ (vi (n:=97+(j:Int)) (vyV)) (Ha_ (vb (n:=97+(j:Int)) (vyV)) Hn_))) mg V V λ_=>zld [(UInt8.ofNat (97+j))] mg V (RL.cs (u8r (n:=97+j) (vyV)) RL.nl) V λyd yq yD wZ tp qs=>bh (v:=(tX [(UInt8.ofNat (97+j))])) (id:= .x []) (oi V V V V (OS.sv tp qs.G5 (i:=10) V)) V V (dl (W:=[]) V V λb hb=>absurd hb a0g) (⟨.inl V,.inl V,.inl V,.inl V,.inr a0g,l_⟩) (wfv (v:=(tX ([118]++[(UInt8.ofNat (97+j))]))) (pL V V (vyV)) (zld ([⟨[118]++[(UInt8.ofNat (97+j))]⟩]:List Str) qs V (RL.cs V RL.nl) V λye yr yE w2 tq qt=>?_)));refine zad 5 hn qt (OS.sv tq qt (i:=11) V) V V V (vyA) (kb V) λud uD uH w4 tt tF=>sdo 3 91 92 [] [] (Hr_ 15 6 Hn_) tF V V λxA x4 tG=>aQ 2 V (wU 1 [] 76 77 [10] [(10,(iI ((j:Int)+1)))] (vi (n:=(j:Int)+1) (vyV)) V λ_=>?_)
    refine tO _ _ _ ?_ ⟨lz++([⟨[118]++[(UInt8.ofNat (97+j))]⟩]:List Str),j+1,uH,ud,uD,_,(go),(HS.sub tG (a06 _ _)),tt,f_,V,(vyE),(vyE)⟩;omega
   exact dt _ _ ⟨aA,kA,la,pA,[102],b5,ch,bw,c4,b3,b9,bt,c3,b0,b7,bl,c0,O,b6,ci,[103],a6,a7,a5,pp1,d2,d5,lz,f9,b2,b8,T,pb1,E,ba,bf,_,(go),mg,(.inl hA_),(.inl a3),(.inl al),(.inl Z),(vyV),(vyV),(vyV),ax,(.inl an),(.inl hn),(.inl bn),(vyV),(vyV),(vyV),a4,f_,(vyE)⟩
  refine wT 1 [] 93 94 [] [(93,(((ah ar 24:Nat):Int)==5))] V λ_=>zI 0 1 (λuk=>?_) λuk=>?_
  ·refine az V ?_;have xu:=aF (Int.tdiv ar 24) 20;refine cC 9 95 103 [] [(101,(iI (((ah (Int.tdiv ar 24) 20:Nat):Int)-1))),(103,(.pointer (some ⟨sB (S_ aA la kA),sO (S_ aA la kA)+1 *Rp.sz ArrT+1,none⟩)))] (Hr_ 1 9 (Ho_ 3 (.o (iI 1)) (pk2 ex hz {H6 with log:=[]}) (Hc_ 5 (ga.aE ex (Int.tdiv ar 24) 20 {H6 with log:=[]} (vyV)) (Ha_ (vi (n:=((ah (Int.tdiv ar 24) 20:Nat):Int)-1) (vyV)) (Ha_ (Sv.ix (j:=1) (OS.sv hA_ cL (i:=1) rfl) e_ (vyV)) Hn_))))) cL rfl rfl λ_=>ef (id:= .s (pA.map Prod.fst)) (jS (α:=ArrT) (j:=1) (off:=1) (q:=1) (⟨(Y la 1 n_).pp,((ah (Int.tdiv ar 24) 20:Nat):Int)-1⟩:ArrT) hA_ cL.G5 rfl rfl rfl rfl rfl rfl rfl rfl (aT (x:=n_) (vyV)) rfl (by rintro cs ⟨rfl,yH⟩;exact⟨a0d V,⟨V,by exact vyV⟩⟩)) V (by rintro _ _ r8 ⟨hG,_,hwr⟩;exact lF (dl V V (Wr.did hwr))) (kb V) ?_
   rintro _ t9 r8 ⟨hG,k5,_⟩ tV qO;replace k5:=HS.lg k5 cL qO;generalize ({t9 with log:=tV}:Heap)=w5 at k5⊢;have vg:=OS.len' hG;refine aQ 0 V ?_;replace hG:=OS.norm hG;exact dt _ _ ⟨aA,kA,la.set 1 (⟨(Y la 1 n_).pp,((ah (Int.tdiv ar 24) 20:Nat):Int)-1⟩:ArrT),r8,[102],b5,ch,bw,c4,b3,b9,bt,c3,b0,b7,bl,c0,O,b6,ci,[103],a6,a7,a5,pp1,a9,bb,a8,dn,b2,b8,T,pb1,E,ba,bf,_,fR,(by simp only[S_,a0u,a0o];exact k5),(.inl hG),(.inl a3),(.inl al),(.inl Z),(vyV),(vyV),(vyV),ax,(.inl an),(.inl a2),(.inl bn),(vyV),(vyV),(vyV),a4,f_,(vyE)⟩
  refine wT 1 [] 104 105 [] [(104,(((ah ar 24:Nat):Int)==6))] V λ_=>zI 0 1 (λul=>?_) λul=>?_
  ·refine az V (cC 2 106 107 [] [(107,(S_ aA la kA))] (Hr_ 1 9 Hn_) cL V V λ_=>zld zKP6 cL V j_ V λyf yu yF sF qo k6=>?_);have xv:=aF (Int.tdiv ar 24) 5;have⟨xi,tN⟩:=Sv.Gg (OS.sv qo k6 (i:=10) V);refine cC 5 109 113 [] [(113,(aG [(tX (Y zKP6 (ah (Int.tdiv ar 24) 5) n_).b),(iI 3)]))] (Hc_ 4 (ga.aE ex (Int.tdiv ar 24) 5 {sF with log:=[]} (vyV)) (Ha_ (Sv.ix (j:=((ah (Int.tdiv ar 24) 5:Nat):Int)) (OS.sv qo k6 (i:=10) rfl) (vyV) (show((ah (Int.tdiv ar 24) 5:Nat):Int)<(5:Int) from by exact vyV)) (Hl_ 6 (ql 9 0 (hc0 (vS (tN (ah (Int.tdiv ar 24) 5)) (show ah (Int.tdiv ar 24) 5<5 from by exact vyV))) rfl rfl) Hn_))) k6 rfl rfl λ_=>zld ([(⟨⟨(Y zKP6 (ah (Int.tdiv ar 24) 5) n_).b⟩,3⟩:ArrT)]:List ArrT) k6 rfl (RL.cs ⟨rfl,by exact vyV⟩ RL.nl) rfl λyg yv yG w6 tu qu=>zad 1 hA_ qu (OS.sv tu qu (i:=11) rfl) rfl rfl rfl (vyA) (kb rfl) λue uE uI w7 tw tH=>sdo 2 116 116 [] [] (Hr_ 11 9 Hn_) tH rfl rfl λxB x5 tI=>aQ 0 rfl ?_
   exact dt _ _ ⟨ue,uE,la++([(⟨⟨(Y zKP6 (ah (Int.tdiv ar 24) 5) n_).b⟩,3⟩:ArrT)]:List ArrT),uI,[102],b5,ch,bw,c4,b3,b9,bt,c3,b0,b7,bl,c0,O,b6,ci,[103],a6,a7,a5,pp1,a9,bb,a8,dn,b2,b8,T,pb1,E,ba,bf,_,fR,(HS.sub tI (a06 _ _)),(.inl tw),(.inl a3),(.inl al),(.inl Z),(vyV),(vyV),(vyV),ax,(.inl an),(.inl a2),(.inl bn),(vyV),(vyV),(vyV),a4,f_,(vyE)⟩
  refine wT 1 [] 117 118 [] [(117,(((ah ar 24:Nat):Int)==7))] V λ_=>zI 0 1 (λum=>?_) λum=>?_
  ·refine ab (cS 7 0 119 125 [] [(119,(pT bF 9)),(123,(aG [E.j,E.n,(tX E.pp.b),E.op,(S_ ba E.I bf)])),(124,(Int.tdiv ar 24)),(125,at_)] (Hr_ 4 6 Hn_) cL V V λ_=>zc (km.oT ex E (Int.tdiv ar 24) at_ (HS.call cL) (vyV) (vyV) (vyV) a4 (vyV) (vyV) M) ?_);rintro _ x6 ⟨uJ,p5,qw,xY,g4,mp,rfl,t4,t5,t6,pX,xD⟩;replace mp:=HS.G8 cL V mp;have⟨hA_,Z,bn,al,a2,a3,an,ax⟩:=M8 g4 hA_ Z bn al a2 a3 an ax;refine sgo 3 8 127 128 [] [] (Hr_ 10 6 Hn_) mp V V λxC x7 tJ=>ai 0 V ?_
   exact dt _ _ ⟨aA,kA,la,pA,[102],b5,ch,bw,c4,b3,b9,bt,c3,b0,b7,bl,c0,O,b6,ci,[103],a6,a7,a5,pp1,a9,bb,a8,dn,b2,b8,T,pb1,uJ,p5,qw,_,(g4),tJ,(.inl hA_),(.inl a3),(.inl al),(.inl Z),(vyV),(vyV),(vyV),ax,(.inl an),(.inl a2),(.inl bn),(vyV),(vyV),(vyV),pX,f_,(vyE)⟩
  refine wT 1 [] 129 130 [] [(129,(((ah ar 24:Nat):Int)==8))] V λ_=>zI 1 1 (λuo=>?_) λuo=>?_
  ·refine wT 2 [] 1 0 [11] [(11,(iI 0))] V λ_=>ak (λ(mm:Nat) f H'=> ∃(ee:ExpT) (j:Nat),∃d3,∃(d6:Nat),∃F',F3.le F'/\Hb H F' H' [hS,pA,c4,c3,pp1,dn,(fP bF [(tX [102]),(S_ b5 bw ch),(S_ b3 bt b9),(S_ b0 bl b7),O.j,O.n,(tX O.pp.b),O.op,(S_ b6 O.I ci),(tX [103]),(S_ a6 a5 a7),(S_ a9 a8 bb),(S_ b2 T b8),ee.j,ee.n,(tX ee.pp.b),ee.op,(S_ d3 ee.I d6)]),c0,pb1,(fP b4 [(S_ aA la kA),(sL (some ⟨bF,0,none⟩) 2 2)])] R/\Sr F' d3 ee.I d6/\aI f [(6,(pT b1 0)),(7,(pT b4 0)),(8,(pT bF 9)),(9,(Int.tdiv ar 24)),(11,(j:Int))]/\mm=30-j/\(in64 ee.j/\in64 ee.n/\in64 ee.op)/\(bkE ee<=bkE E+21 *j)/\(j<=30)) _ ⟨E,0,ba,bf,_,fR,cL,a4,f_,V,(vyE),(vyE),(vyE)⟩ ?_
   rintro xM yj ua ⟨ee,j,d3,d6,xZ,g0,ms,ho,qb,rfl,h1,hb,hj⟩ tP;refine aw _ qb (λ_=>?_);clear qb;have⟨hA_,Z,bn,al,a2,a3,an,ax⟩:=M8 g0 hA_ Z bn al a2 a3 an ax;refine aj 2 V ?_;have xw:=aF (Int.tdiv ar 24) 30;refine wU 1 [(2,.o (iI ((ah (Int.tdiv ar 24) 30:Nat):Int)))] 131 134 [] [(134,(decide ((j:Int)<((ah (Int.tdiv ar 24) 30:Nat):Int))))] (ga.aE ex (Int.tdiv ar 24) 30 ua (vyV)) V λ_=>zd 3 3 (λuq=>?_) λuq=>?_
   ·refine ab (cS 5 0 137 141 [] [(137,(pT bF 9)),(141,(aG [ee.j,ee.n,(tX ee.pp.b),ee.op,(S_ d3 ee.I d6)]))] (Hr_ 4 6 Hn_) ms V V λ_=>zlo [ee] ms V (RL.cs (ExpT.mq ho) RL.nl) V λsG tS xN wC qP q9=>sgo 4 6 143 145 [] [] (Hr_ 9 6 Hn_) q9 V V λu4 wD ra=>ai 2 V (wU 1 [] 135 136 [11] [(11,(iI ((j:Int)+1)))] (vi (n:=(j:Int)+1) (vyV)) V λ_=>?_));have⟨v4,qM,rb,q0,vh⟩:=OS.Gi qP ra (i:=10) V;refine tP _ _ _ ?_ ⟨(⟨4,0,⟨[]⟩,21,[ee]⟩:ExpT),j+1,sG,tS,_,(fT (g0) qM),(HS.sub rb (a06 _ _)),q0,f_,V,(vyE),(vyE),(vyE)⟩;omega
   exact dt _ _ ⟨aA,kA,la,pA,[102],b5,ch,bw,c4,b3,b9,bt,c3,b0,b7,bl,c0,O,b6,ci,[103],a6,a7,a5,pp1,a9,bb,a8,dn,b2,b8,T,pb1,ee,d3,d6,_,(g0),ms,(.inl hA_),(.inl a3),(.inl al),(.inl Z),(vyV),(vyV),(vyV),ax,(.inl an),(.inl a2),(.inl bn),(vyV),(vyV),(vyV),ho,f_,(vyE)⟩
  refine wT 1 [] 146 147 [] [(146,(((ah ar 24:Nat):Int)==9))] V λ_=>zI 1 1 (λsJ=>?_) λsJ=>?_
  ·have⟨sb,e0,rc,q1,vj⟩:=OS.Gi bn cL (i:=8) V;refine wT 2 [] 1 0 [12] [(12,(iI 0))] V λ_=>ak (λ(mm:Nat) f H'=> ∃(lz:List StmT) (j:Nat),∃c5,∃(c8:Nat),∃F',sb.le F'/\Hb H F' H' [hS,pA,c4,c3,pp1,dn,(fP bF [(tX [102]),(S_ b5 bw ch),(S_ b3 bt b9),(S_ b0 bl b7),O.j,O.n,(tX O.pp.b),O.op,(S_ b6 O.I ci),(tX [103]),(S_ a6 a5 a7),(S_ a9 a8 bb),(S_ c5 lz c8),E.j,E.n,(tX E.pp.b),E.op,(S_ ba E.I bf)]),c0,[],(fP b4 [(S_ aA la kA),(sL (some ⟨bF,0,none⟩) 2 2)])] R/\Sr F' c5 lz c8/\aI f [(6,(pT b1 0)),(7,(pT b4 0)),(8,(pT bF 9)),(9,(Int.tdiv ar 24)),(12,(j:Int))]/\mm=30-j/\(cN lz<=cN T+180 *j)/\(uSs lz<=cN lz)/\(j<=30)) _ ⟨T,0,b2,b8,_,fR,rc,q1,f_,V,(vyE),(vyE),(vyE)⟩ ?_
   rintro vZ xj sf ⟨lz,j,c5,c8,v5,d8,kk,hf,o1,rfl,hb,hu,hj⟩ rS;refine aw _ o1 (λ_=>?_);clear o1;replace hA_:=(hA_.ac e0).ac d8;replace Z:=(Z.ac e0).ac d8;replace al:=(al.ac e0).ac d8;replace a2:=(a2.ac e0).ac d8;replace a3:=(a3.ac e0).ac d8;replace an:=(an.ac e0).ac d8;replace ax:=(ax.ac e0).ac d8;replace a4:=(a4.ac e0).ac d8;refine aj 2 V ?_;have uY:=aF (Int.tdiv ar 24) 30;refine wU 1 [(2,.o (iI ((ah (Int.tdiv ar 24) 30:Nat):Int)))] 148 151 [] [(151,(decide ((j:Int)<((ah (Int.tdiv ar 24) 30:Nat):Int))))] (ga.aE ex (Int.tdiv ar 24) 30 sf (vyV)) V λ_=>zd 3 3 (λsM=>?_) λsM=>?_
   ·refine ab (cS 7 0 154 160 [] [(154,(pT bF 9)),(160,(aG [(iI 3),(tX []),(tX []),(iI 0),(iI 0),(iI 0),(tX []),(iI 0),N_,(iI 1),(iI 0),(tX []),(iI 0),N_,N_,(S_ c5 lz c8),N_]))] (Hr_ 5 6 Hn_) kk V V λ_=>zlo ([(⟨3,⟨[]⟩,⟨[]⟩,0,zKP7,zKP8,iX,lz,kr⟩:StmT)]:List StmT) kk V (RL.cs (StmT.mq SR.nil SR.nil SR.nil hf SR.nil) RL.nl) V λsH tT xO wE qQ re=>sgo 3 8 162 163 [] [] (Hr_ 10 6 Hn_) re V V λu5 wF rf=>ai 2 V (wU 1 [] 152 153 [12] [(12,(iI ((j:Int)+1)))] (vi (n:=(j:Int)+1) (vyV)) V λ_=>?_));have⟨v6,qN,rg,q2,vk⟩:=OS.Gi qQ rf (i:=10) V;refine rS _ _ _ ?_ ⟨([(⟨3,⟨[]⟩,⟨[]⟩,0,zKP7,zKP8,iX,lz,kr⟩:StmT)]:List StmT),j+1,sH,tT,_,(fT (d8) qN),(HS.sub rg (a06 _ _)),q2,f_,V,(vyE),(vyE),(vyE)⟩;omega
   exact dt _ _ ⟨aA,kA,la,pA,[102],b5,ch,bw,c4,b3,b9,bt,c3,b0,b7,bl,c0,O,b6,ci,[103],a6,a7,a5,pp1,a9,bb,a8,dn,c5,c8,lz,[],E,ba,bf,_,(fT (e0) d8),kk,(.inl hA_),(.inl a3),(.inl al),(.inl Z),(vyV),(vyV),(vyV),ax,(.inl an),(.inl a2),(.inr hf),(vyV),(vyV),(vyV),a4,f_,(vyE)⟩
  refine wT 1 [] 164 165 [] [(164,(((ah ar 24:Nat):Int)==10))] V λ_=>zI 1 1 (λsN=>?_) λsN=>?_
  ·refine wT 2 [] 1 0 [13] [(13,(iI 0))] V λ_=>ak (λ(mm:Nat) f H'=> ∃(lz:List StmT) (j:Nat),∃et c6,∃(c9:Nat),∃F',F3.le F'/\Hb H F' H' [hS,pA,c4,c3,pp1,dn,(fP bF [(tX [102]),(S_ b5 bw ch),(S_ b3 bt b9),(S_ b0 bl b7),O.j,O.n,(tX O.pp.b),O.op,(S_ b6 O.I ci),(tX [103]),(S_ a6 a5 a7),(S_ a9 a8 bb),(S_ c6 lz c9),E.j,E.n,(tX E.pp.b),E.op,(S_ ba E.I bf)]),c0,et,(fP b4 [(S_ aA la kA),(sL (some ⟨bF,0,none⟩) 2 2)])] R/\OZ F' c6 lz c9 et/\aI f [(6,(pT b1 0)),(7,(pT b4 0)),(8,(pT bF 9)),(9,(Int.tdiv ar 24)),(13,(j:Int))]/\mm=24-j/\(uSs lz<=uSs T+60 *j)/\(j<=24)) _ ⟨T,0,pb1,b2,b8,_,fR,cL,bn,f_,V,(vyE),(vyE)⟩ ?_
   rintro v0 xk sg ⟨lz,j,et,c6,c9,sc,d9,kl,hg,o2,rfl,hb,hj⟩ rU;refine aw _ o2 (λ_=>?_);clear o2;have⟨hA_,Z,al,a2,a3,an,ax,a4⟩:=M8 d9 hA_ Z al a2 a3 an ax a4;have yz:=(kz lz).2;refine aj 2 V ?_;have uZ:=aF (Int.tdiv ar 24) 24;refine wU 1 [(2,.o (iI ((ah (Int.tdiv ar 24) 24:Nat):Int)))] 166 169 [] [(169,(decide ((j:Int)<((ah (Int.tdiv ar 24) 24:Nat):Int))))] (ga.aE ex (Int.tdiv ar 24) 24 sg (vyV)) V λ_=>zd 3 3 (λsP=>?_) λsP=>?_
   ·refine az V (cC 7 172 178 [] [(172,(pT bF 9)),(175,(S_ c6 lz c9)),(177,(aG [(iI 4),(tX []),(tX []),(iI 0),(iI 0),(iI 0),(tX []),(iI 0),N_,(iI 1),(iI 0),(tX []),(iI 0),N_,N_,N_,N_])),(178,(Q lz:Int))] (Hr_ 3 6 Hn_) kl V V λ_=>zld zKP1 kl V (RL.cs (StmT.mq SR.nil SR.nil SR.nil SR.nil SR.nil) RL.nl) V λw8 xE xP uK qR pi=>zad 8 hg pi (OS.sv qR pi (i:=10) V) V V V (vyA) (kb V) λl3 n3 tW uL o7 hq=>wfv (v:=(.pointer (some ⟨sB (sL l3 (Q (lz++zKP1)) n3),sO (sL l3 (Q (lz++zKP1)) n3)+Q lz *Rp.sz StmT,none⟩))) (dw (α:=StmT) (j:=(Q lz:Int)) V V V V (OS.sv o7 hq.G5 (i:=8) V) (vyV) (vyV)) (ef (id:= .s (tW.map Prod.fst)) (jS (α:=StmT) (j:=Q lz) (off:=0) (q:=8) zKP2 o7 hq.G5 V V V V V V V V (aT (x:=n_) (vyV)) V (fX (F:=sc) (Y:=zKP2) (cl:=[(iI 4),(tX []),(tX []),(iI 0),(iI 0),(iI 0),(tX []),(iI 0),N_,(iI 1),(iI 0),(tX []),(iI 0),N_,N_,N_,N_]) (StmT.mkr ⟨none,0,none,0,none,0,none,0,none,0,V,by exact vyV,by exact vyV,by exact vyV,by exact vyV,by exact vyV,by exact vyV,by exact vyV,by exact vyV,SR.nil,SR.nil,SR.nil,SR.nil,SR.nil⟩))) V (by rintro _ _ qz ⟨h0,_,hwr⟩;exact lF (dl V V (Wr.did hwr))) (kb V) ?_));rintro _ si qz ⟨h0,g8,_⟩ rX qc;replace g8:=HS.lg g8 hq qc;generalize ({si with log:=rX}:Heap)=uM at g8⊢;have ux:=OS.len' h0;refine cC 2 182 183 [] [(183,(pT bF 12))] Hn_ g8 V V λ_=>ef (id:= .s [bF]) (ck (q:=6) g8.G5 V V V V V V V V V) V (by rintro _ _ _ ⟨_,hwr⟩;exact lF (dl V V (Wr.did hwr))) (⟨.inl V,.inl V,.inr ⟨V,V,λb hb=>HS.nin hq (i:=8) (j:=6) V V e_ hb⟩,l_⟩) ?_
    rintro _ sk _ ⟨hr,_⟩ rY qd;replace hr:=HS.lg hr g8 qd;generalize ({sk with log:=rY}:Heap)=uN at hr⊢;refine aQ 2 V (wU 1 [] 170 171 [13] [(13,(iI ((j:Int)+1)))] (vi (n:=(j:Int)+1) (vyV)) V λ_=>?_);refine rU _ _ _ ?_ ⟨(lz++zKP1).set (Q lz) zKP2,j+1,qz,l3,n3,_,(d9),(by(simpa only[S_,a0u] using(HS.sub hr (a06 _ _)))),(OS.norm h0),f_,V,(vyE),(vyE)⟩;omega
   exact dt _ _ ⟨aA,kA,la,pA,[102],b5,ch,bw,c4,b3,b9,bt,c3,b0,b7,bl,c0,O,b6,ci,[103],a6,a7,a5,pp1,a9,bb,a8,dn,c6,c9,lz,et,E,ba,bf,_,(d9),kl,(.inl hA_),(.inl a3),(.inl al),(.inl Z),(vyV),(vyV),(vyV),ax,(.inl an),(.inl a2),(.inl hg),(vyV),(vyV),(vyV),a4,f_,(vyE)⟩
  refine wT 1 [] 184 185 [] [(184,(((ah ar 24:Nat):Int)==11))] V λ_=>zI 1 2 (λsQ=>?_) λsQ=>?_
  ·refine wT 2 [] 1 0 [14] [(14,(iI 0))] V λ_=>ak (λ(mm:Nat) f H'=> ∃(lz:List StmT) (j:Nat),∃ez c7,∃(dk:Nat),∃F',F3.le F'/\Hb H F' H' [hS,pA,c4,c3,pp1,dn,(fP bF [(tX [102]),(S_ b5 bw ch),(S_ b3 bt b9),(S_ b0 bl b7),O.j,O.n,(tX O.pp.b),O.op,(S_ b6 O.I ci),(tX [103]),(S_ a6 a5 a7),(S_ a9 a8 bb),(S_ c7 lz dk),E.j,E.n,(tX E.pp.b),E.op,(S_ ba E.I bf)]),c0,ez,(fP b4 [(S_ aA la kA),(sL (some ⟨bF,0,none⟩) 2 2)])] R/\OZ F' c7 lz dk ez/\aI f [(6,(pT b1 0)),(7,(pT b4 0)),(8,(pT bF 9)),(9,(Int.tdiv ar 24)),(14,(j:Int))]/\mm=259-j/\(uSs lz<=uSs T+36 *j)/\(j<=259)) _ ⟨T,0,pb1,b2,b8,_,fR,cL,bn,f_,V,(vyE),(vyE)⟩ ?_
   rintro v1 xl so ⟨lz,j,ez,c7,dk,sd,ea,kn,hh,o3,rfl,hb,hj⟩ rV;refine aw _ o3 (λ_=>?_);clear o3;have⟨hA_,Z,al,a2,a3,an,ax,a4⟩:=M8 ea hA_ Z al a2 a3 an ax a4;have yz:=(kz lz).2;refine aj 2 V ?_;have u0:=aF (Int.tdiv ar 24) 260;refine wU 1 [(2,.o (iI ((ah (Int.tdiv ar 24) 260:Nat):Int)))] 186 189 [] [(189,(decide ((j:Int)<((ah (Int.tdiv ar 24) 260:Nat):Int))))] (ga.aE ex (Int.tdiv ar 24) 260 so (vyV)) V λ_=>zd 3 3 (λsR=>?_) λsR=>?_
   ·refine az V (cC 8 192 199 [] [(192,(pT bF 9)),(195,(S_ c7 lz dk)),(198,(aG [(iI 5),(tX []),(tX []),(iI 0),(iI 0),(iI 0),(tX []),(iI 0),N_,(iI 1),(j:Int),(tX []),(iI 0),N_,N_,N_,N_])),(199,(Q lz:Int))] (Hr_ 3 6 Hn_) kn V V λ_=>zld zKP1 kn V (RL.cs (StmT.mq SR.nil SR.nil SR.nil SR.nil SR.nil) RL.nl) V λw9 xF xQ uO qS pj=>zad 8 hh pj (OS.sv qS pj (i:=10) V) V V V (vyA) (kb V) λl5 n4 tY uP o8 ht=>wfv (v:=(.pointer (some ⟨sB (sL l5 (Q (lz++zKP1)) n4),sO (sL l5 (Q (lz++zKP1)) n4)+Q lz *Rp.sz StmT,none⟩))) (dw (α:=StmT) (j:=(Q lz:Int)) V V V V (OS.sv o8 ht.G5 (i:=8) V) (vyV) (vyV)) (ef (id:= .s (tY.map Prod.fst)) (jS (α:=StmT) (j:=Q lz) (off:=0) (q:=8) (⟨5,⟨[]⟩,⟨[]⟩,0,zKP7,(⟨1,(j:Int),⟨[]⟩,0,iX⟩:ExpT),iX,kr,kr⟩:StmT) o8 ht.G5 V V V V V V V V (aT (x:=n_) (vyV)) V (fX (F:=sd) (Y:=(⟨5,⟨[]⟩,⟨[]⟩,0,zKP7,(⟨1,(j:Int),⟨[]⟩,0,iX⟩:ExpT),iX,kr,kr⟩:StmT)) (cl:=[(iI 5),(tX []),(tX []),(iI 0),(iI 0),(iI 0),(tX []),(iI 0),N_,(iI 1),(j:Int),(tX []),(iI 0),N_,N_,N_,N_]) (StmT.mkr ⟨none,0,none,0,none,0,none,0,none,0,V,by exact vyV,by exact vyV,by exact vyV,by exact vyV,by exact vyV,by exact vyV,by exact vyV,by exact vyV,SR.nil,SR.nil,SR.nil,SR.nil,SR.nil⟩))) V (by rintro _ _ qA ⟨h2,_,hwr⟩;exact lF (dl V V (Wr.did hwr))) (kb V) ?_));rintro _ sr qA ⟨h2,g9,_⟩ r0 qe;replace g9:=HS.lg g9 ht qe;generalize ({sr with log:=r0}:Heap)=uQ at g9⊢;have uy:=OS.len' h2;refine cC 2 203 204 [] [(204,(pT bF 12))] Hn_ g9 V V λ_=>ef (id:= .s [bF]) (ck (q:=6) g9.G5 V V V V V V V V V) V (by rintro _ _ _ ⟨_,hwr⟩;exact lF (dl V V (Wr.did hwr))) (⟨.inl V,.inl V,.inr ⟨V,V,λb hb=>HS.nin ht (i:=8) (j:=6) V V e_ hb⟩,l_⟩) ?_
    rintro _ ss _ ⟨hv,_⟩ r1 qf;replace hv:=HS.lg hv g9 qf;generalize ({ss with log:=r1}:Heap)=uR at hv⊢;refine aQ 2 V (wU 1 [] 190 191 [14] [(14,(iI ((j:Int)+1)))] (vi (n:=(j:Int)+1) (vyV)) V λ_=>?_);refine rV _ _ _ ?_ ⟨(lz++zKP1).set (Q lz) (⟨5,⟨[]⟩,⟨[]⟩,0,zKP7,(⟨1,(j:Int),⟨[]⟩,0,iX⟩:ExpT),iX,kr,kr⟩:StmT),j+1,qA,l5,n4,_,(ea),(by(simpa only[S_,a0u] using(HS.sub hv (a06 _ _)))),(OS.norm h2),f_,V,(vyE),(vyE)⟩;omega
   exact dt _ _ ⟨aA,kA,la,pA,[102],b5,ch,bw,c4,b3,b9,bt,c3,b0,b7,bl,c0,O,b6,ci,[103],a6,a7,a5,pp1,a9,bb,a8,dn,c7,dk,lz,ez,E,ba,bf,_,(ea),kn,(.inl hA_),(.inl a3),(.inl al),(.inl Z),(vyV),(vyV),(vyV),ax,(.inl an),(.inl a2),(.inl hh),(vyV),(vyV),(vyV),a4,f_,(vyE)⟩
  refine wT 1 [] 205 206 [] [(205,(((ah ar 24:Nat):Int)==12))] V λ_=>jg (λf H'=> ∃(b:Bool),H'=H6/\aI f [(2,at_),(6,(pT b1 0)),(7,(pT b4 0)),(8,(pT bF 9)),(9,(Int.tdiv ar 24)),(27,((ah ar 24:Nat):Int)),(205,b)]) (λhm=>?_) ?_
  ·refine zI 0 1 (λsS=>?_) λsS=>?_
   ·exact hm _ _ ⟨(((ah ar 24:Nat):Int)==12),V,f_⟩
   refine wT 1 [] 205 207 [] [(205,(((ah ar 24:Nat):Int)==13))] V λ_=>zI 0 1 (λsT=>?_) λsT=>?_
   ·exact hm _ _ ⟨(((ah ar 24:Nat):Int)==13),V,f_⟩
   refine wT 1 [] 205 208 [] [(205,(((ah ar 24:Nat):Int)==14))] V λ_=>zI 0 1 (λsU=>?_) λsU=>?_
   ·exact hm _ _ ⟨(((ah ar 24:Nat):Int)==14),V,f_⟩
   refine wT 1 [] 205 209 [] [(205,(((ah ar 24:Nat):Int)==15))] V λ_=>zI 0 0 (λsV=>?_) λsV=>?_
   ·exact hm _ _ ⟨(((ah ar 24:Nat):Int)==15),V,f_⟩
   refine wT 0 [] 205 210 [] [(205,(((ah ar 24:Nat):Int)==16))] V λ_=>?_
   exact hm _ _ ⟨(((ah ar 24:Nat):Int)==16),V,f_⟩
  skip;rintro xm H6 ⟨b,rfl,o4⟩;refine aw _ o4 (λ_=>?_);clear o4;refine aj 1 V (zI 1 1 (λsW=>?_) λsW=>?_)
  ·refine bQ 1 211 216 [] [(216,(decide ((0:Int)<(Q T:Int))))] (Hr_ 3 6 Hn_) cL V V λ_=>zd 1 0 (λsX=>?_) λsX=>?_
   ·have v3:in64 at_->in64 (Int.tdiv at_ 2):=λh=>vq h e_
    have u1:=aF (Int.tdiv at_ 2) (Q T);refine bQ 2 217 224 [15] [(15,((ah (Int.tdiv at_ 2) (Q T):Nat):Int))] (Ha_ (vA (show(2:Int)≠0 from by decide) (vq (a:=at_) (b:=2) (vyV) e_)) (Hr_ 5 6 (Hc_ 7 (ga.aE ex (Int.tdiv at_ 2) (Q T) H6 (vyV)) Hn_))) cL V V λ_=>ab (zm (pT bF 9) (zlo kr cL V RL.nl V λxa xG xR wG qT kt=>cS 4 2 227 230 [] [(230,(S_ b2 T b8))] (Hr_ 5 6 Hn_) kt V V λ_=>zao 10 qT kt (OS.sv bn kt (i:=8) V) V V V (vyA) λhA hH qB wH gm rh=>?_))
    have gm:OZ F3 hA T hH qB:=gm;refine sgo 3 7 232 233 [] [] (Hr_ 9 6 Hn_) rh V V λu6 wI he=>ai 1 V (az V ?_)
    have⟨d7,pV⟩:=Sv.Gg (OS.sv gm he (i:=10) V);have⟨ur,us,ut,uu,uv,uw,t2,t3,qK,pY,pZ,p0,p1⟩:=StmT.fx (pV (ah (Int.tdiv at_ 2) (Q T)));refine cC 14 234 247 [] [(237,(S_ hA T hH)),(238,((ah (Int.tdiv at_ 2) (Q T):Nat):Int)),(245,(aG [(Y T (ah (Int.tdiv at_ 2) (Q T)) n_).j,(tX (Y T (ah (Int.tdiv at_ 2) (Q T)) n_).pp.b),(tX (Y T (ah (Int.tdiv at_ 2) (Q T)) n_).K.b),(Y T (ah (Int.tdiv at_ 2) (Q T)) n_).n,(Y T (ah (Int.tdiv at_ 2) (Q T)) n_).G2.j,(Y T (ah (Int.tdiv at_ 2) (Q T)) n_).G2.n,(tX (Y T (ah (Int.tdiv at_ 2) (Q T)) n_).G2.pp.b),(Y T (ah (Int.tdiv at_ 2) (Q T)) n_).G2.op,(sL (cA (d7 (ah (Int.tdiv at_ 2) (Q T))) 8) (Q (Y T (ah (Int.tdiv at_ 2) (Q T)) n_).G2.I) (cK (d7 (ah (Int.tdiv at_ 2) (Q T))) 8)),(Y T (ah (Int.tdiv at_ 2) (Q T)) n_).val.j,(Y T (ah (Int.tdiv at_ 2) (Q T)) n_).val.n,(tX (Y T (ah (Int.tdiv at_ 2) (Q T)) n_).val.pp.b),(Y T (ah (Int.tdiv at_ 2) (Q T)) n_).val.op,(sL (cA (d7 (ah (Int.tdiv at_ 2) (Q T))) 13) (Q (Y T (ah (Int.tdiv at_ 2) (Q T)) n_).val.I) (cK (d7 (ah (Int.tdiv at_ 2) (Q T))) 13)),(sL (cA (d7 (ah (Int.tdiv at_ 2) (Q T))) 14) (Q (Y T (ah (Int.tdiv at_ 2) (Q T)) n_).y) (cK (d7 (ah (Int.tdiv at_ 2) (Q T))) 14)),(sL (cA (d7 (ah (Int.tdiv at_ 2) (Q T))) 15) (Q (Y T (ah (Int.tdiv at_ 2) (Q T)) n_).G4) (cK (d7 (ah (Int.tdiv at_ 2) (Q T))) 15)),(sL (cA (d7 (ah (Int.tdiv at_ 2) (Q T))) 16) (Q (Y T (ah (Int.tdiv at_ 2) (Q T)) n_).G7) (cK (d7 (ah (Int.tdiv at_ 2) (Q T))) 16))])),(246,(Int.tdiv ar 24)),(247,at_)] (Hr_ 3 6 (Hr_ 8 6 (Ha_ (Sv.ix (j:=((ah (Int.tdiv at_ 2) (Q T):Nat):Int)) (OS.sv gm he (i:=10) V) (vyV) (vyV)) (Hl_ 11 (qn 63 0 17 (hc0 (StmT.vw (pV (ah (Int.tdiv at_ 2) (Q T))) (vyV))) V V V V) Hn_)))) he V V λ_=>bH (W:=[]) (bj V V V) V V V (km.mstmt_c ex (Y T (ah (Int.tdiv at_ 2) (Q T)) n_) (Int.tdiv ar 24) at_ (HS.call he.G5) (vyV) (vyV) (vyV) (vyV) (vyV) qK (vyV) (vyV) (vyV) pY pZ p0 p1 (vyV) (vyV) (by(have:=kP (l:=T) (i:=ah (at_.tdiv 2) (Q T)) M;omega))) (⟨.inl V,.inl V,.inl V,.inl V,.inl V,.inl V,.inl V,.inl V,.inl V,.inr trivial,.inr a0g,l_⟩) ?_
    rintro _ su ⟨co,hT,hV,hB,hI,hC,hJ,hD,hK,hF,hQ,se,em,f6,rfl,s8,s9,tc,te,tf,tg,r5,r6,ma,k7,k8,k9,ll,vf⟩;refine⟨Wr.did f6.log,λr2 qg=>?_⟩;replace f6:=HS.G8 he.G5 V f6;replace f6:=HS.lg f6 he qg;generalize ({su with log:=r2}:Heap)=uT at f6⊢;have gm:=gm.ac em;refine wfv (v:=(.pointer (some ⟨sB (S_ hA T hH),sO (S_ hA T hH)+(ah (Int.tdiv at_ 2) (Q T)) *Rp.sz StmT,none⟩))) (dw (α:=StmT) (j:=((ah (Int.tdiv at_ 2) (Q T):Nat):Int)) V V V V (OS.sv gm f6.G5 (i:=10) V) (vyV) (vyV)) (ef (id:= .s (qB.map Prod.fst)) (jS (α:=StmT) (j:=ah (Int.tdiv at_ 2) (Q T)) (off:=0) (q:=10) co gm f6.G5 V V V V V V V V (aT (x:=n_) (vyV)) V (fX (F:=se) (Y:=co) (cl:=[co.j,(tX co.pp.b),(tX co.K.b),co.n,co.G2.j,co.G2.n,(tX co.G2.pp.b),co.G2.op,(S_ hT co.G2.I hV),co.val.j,co.val.n,(tX co.val.pp.b),co.val.op,(S_ hB co.val.I hI),(S_ hC co.y hJ),(S_ hD co.G4 hK),(S_ hF co.G7 hQ)]) (StmT.mkr ⟨hT,hV,hB,hI,hC,hJ,hD,hK,hF,hQ,V,by exact vyV,by exact vyV,by exact vyV,by exact vyV,by exact vyV,by exact vyV,by exact vyV,by exact vyV,ma,k7,k8,k9,ll⟩))) V (by rintro _ _ tZ ⟨h3,_,hwr⟩;exact lF (dl V V (Wr.did hwr))) (kb V) ?_);rintro _ sw tZ ⟨h3,hw,_⟩ r3 qh;replace hw:=HS.lg hw f6 qh;generalize ({sw with log:=r3}:Heap)=uU at hw⊢;have uz:=OS.len' h3;refine aQ 0 V ?_;have⟨v7,e1,ri,h5,vm⟩:=OS.Gi h3 hw (i:=10) V;replace hA_:=(hA_.ac em).ac e1;replace Z:=(Z.ac em).ac e1;replace al:=(al.ac em).ac e1;replace a2:=(a2.ac em).ac e1;replace a3:=(a3.ac em).ac e1;replace an:=(an.ac em).ac e1;replace ax:=(ax.ac em).ac e1;replace a4:=(a4.ac em).ac e1;replace h5:=SR.norm h5;have m9:=lR (k:=120) (show(ah (Int.tdiv at_ 2) (Q T))<(Q T) by omega) (by assumption:bkS co<=_);have yw:=(kz (T.set (ah (Int.tdiv at_ 2) (Q T)) co)).1;exact dt _ _ ⟨aA,kA,la,pA,[102],b5,ch,bw,c4,b3,b9,bt,c3,b0,b7,bl,c0,O,b6,ci,[103],a6,a7,a5,pp1,a9,bb,a8,dn,hA,hH,T.set (ah (Int.tdiv at_ 2) (Q T)) co,pb1,E,ba,bf,_,(fT (em) e1),(by simp only[S_,a0u,a0o];exact(HS.sub ri (a06 _ _))),(.inl hA_),(.inl a3),(.inl al),(.inl Z),(vyV),(vyV),(vyV),ax,(.inl an),(.inl a2),(.inr h5),(vyV),(vyV),(vyV),a4,f_,(vyE)⟩
   exact dt _ _ ⟨aA,kA,la,pA,[102],b5,ch,bw,c4,b3,b9,bt,c3,b0,b7,bl,c0,O,b6,ci,[103],a6,a7,a5,pp1,a9,bb,a8,dn,b2,b8,T,pb1,E,ba,bf,_,fR,cL,(.inl hA_),(.inl a3),(.inl al),(.inl Z),(vyV),(vyV),(vyV),ax,(.inl an),(.inl a2),(.inl bn),(vyV),(vyV),(vyV),a4,f_,(vyE)⟩
  refine wT 1 [] 250 251 [] [(250,(((ah ar 24:Nat):Int)==17))] V λ_=>zI 0 1 (λsY=>?_) λsY=>?_
  ·have⟨v8,e2,rj,h6,vn⟩:=OS.Gi a3 cL (i:=2) V;have al:=al.ac e2;have⟨v9,e3,rk,h7,vp⟩:=OS.Gi al rj (i:=3) V;replace Z:=(Z.ac e2).ac e3;have⟨wb,e4,rl,h8,vr⟩:=OS.Gi Z rk (i:=7) V;replace an:=((an.ac e2).ac e3).ac e4;have⟨wc,e5,rm,h9,vt⟩:=OS.Gi an rl (i:=4) V;replace a2:=(((a2.ac e2).ac e3).ac e4).ac e5;have⟨wd,e6,rn,ia,vu⟩:=OS.Gi a2 rm (i:=5) V;replace bn:=((((bn.ac e2).ac e3).ac e4).ac e5).ac e6;have⟨p2,e7,pl,q3,vv⟩:=OS.Gi bn rn (i:=8) V;replace hA_:=(((((hA_.ac e2).ac e3).ac e4).ac e5).ac e6).ac e7;replace h6:=((((h6.ac e3).ac e4).ac e5).ac e6).ac e7;replace h7:=(((h7.ac e4).ac e5).ac e6).ac e7;replace h8:=((h8.ac e5).ac e6).ac e7;replace h9:=(h9.ac e6).ac e7;have ia:=ia.ac e7;replace ax:=(((((ax.ac e2).ac e3).ac e4).ac e5).ac e6).ac e7;replace a4:=(((((a4.ac e2).ac e3).ac e4).ac e5).ac e6).ac e7;let r9:Fp:=(fP bF [(tX [102]),(S_ b5 bw ch),(S_ b3 bt b9),(S_ b0 bl b7),O.j,O.n,(tX O.pp.b),O.op,(S_ b6 O.I ci),(tX [103]),(S_ a6 a5 a7),(S_ a9 a8 bb),(S_ b2 T b8),E.j,E.n,(tX E.pp.b),E.op,(S_ ba E.I bf)])
   have qU:OS p2 (sL (some ⟨bF,0,none⟩) 2 2) ([(⟨⟨[102]⟩,bw,bt,bl,(⟨O.j,O.n,⟨O.pp.b⟩,O.op,O.I⟩:ExpT)⟩:FunT),(⟨⟨[103]⟩,a5,a8,T,(⟨E.j,E.n,⟨E.pp.b⟩,E.op,E.I⟩:ExpT)⟩:FunT)]:List FunT) r9:=nI (b:=bF) (α:=FunT) (l:=([(⟨⟨[102]⟩,bw,bt,bl,(⟨O.j,O.n,⟨O.pp.b⟩,O.op,O.I⟩:ExpT)⟩:FunT),(⟨⟨[103]⟩,a5,a8,T,(⟨E.j,E.n,⟨E.pp.b⟩,E.op,E.I⟩:ExpT)⟩:FunT)]:List FunT)) (show RL p2 [(tX [102]),(S_ b5 bw ch),(S_ b3 bt b9),(S_ b0 bl b7),O.j,O.n,(tX O.pp.b),O.op,(S_ b6 O.I ci),(tX [103]),(S_ a6 a5 a7),(S_ a9 a8 bb),(S_ b2 T b8),E.j,E.n,(tX E.pp.b),E.op,(S_ ba E.I bf)] ([(⟨⟨[102]⟩,bw,bt,bl,(⟨O.j,O.n,⟨O.pp.b⟩,O.op,O.I⟩:ExpT)⟩:FunT),(⟨⟨[103]⟩,a5,a8,T,(⟨E.j,E.n,⟨E.pp.b⟩,E.op,E.I⟩:ExpT)⟩:FunT)]:List FunT) from⟨[(tX [102]),(S_ b5 bw ch),(S_ b3 bt b9),(S_ b0 bl b7),O.j,O.n,(tX O.pp.b),O.op,(S_ b6 O.I ci)],[(tX [103]),(S_ a6 a5 a7),(S_ a9 a8 bb),(S_ b2 T b8),E.j,E.n,(tX E.pp.b),E.op,(S_ ba E.I bf)],V,⟨b5,ch,b3,b9,b0,b7,b6,ci,V,by exact vyV,by exact vyV,by exact vyV,h6,h7,h8,ax⟩,⟨[(tX [103]),(S_ a6 a5 a7),(S_ a9 a8 bb),(S_ b2 T b8),E.j,E.n,(tX E.pp.b),E.op,(S_ ba E.I bf)],[],V,⟨a6,a7,a9,bb,b2,b8,ba,bf,V,by exact vyV,by exact vyV,by exact vyV,h9,ia,q3,a4⟩,V⟩⟩);refine az V (cC 2 252 253 [] [(253,(sL (some ⟨bF,0,none⟩) (Q ([(⟨⟨[102]⟩,bw,bt,bl,(⟨O.j,O.n,⟨O.pp.b⟩,O.op,O.I⟩:ExpT)⟩:FunT),(⟨⟨[103]⟩,a5,a8,T,(⟨E.j,E.n,⟨E.pp.b⟩,E.op,E.I⟩:ExpT)⟩:FunT)]:List FunT)) 2))] (Hr_ 1 9 Hn_) pl V V λ_=>zld oj pl V j_ V λxb xH xS qL o9 hx=>?_);have u2:=aF (Int.tdiv ar 24) 2;have⟨uX,rR⟩:=Sv.Gg (OS.sv o9 hx (i:=10) V);refine cC 5 255 259 [] [(259,(aG [(tX (Y oj (ah (Int.tdiv ar 24) 2) n_).b),N_,N_,N_,(iI 0),(iI 0),(tX []),(iI 0),N_]))] (Hc_ 4 (ga.aE ex (Int.tdiv ar 24) 2 {qL with log:=[]} (vyV)) (Ha_ (Sv.ix (j:=((ah (Int.tdiv ar 24) 2:Nat):Int)) (OS.sv o9 hx (i:=10) rfl) (vyV) (show((ah (Int.tdiv ar 24) 2:Nat):Int)<(2:Int) from by exact vyV)) (Hl_ 6 (ql 9 0 (hc0 (vS (rR (ah (Int.tdiv ar 24) 2)) (show ah (Int.tdiv ar 24) 2<2 from by exact vyV))) rfl rfl) Hn_))) hx rfl rfl λ_=>zld ([(⟨⟨(Y oj (ah (Int.tdiv ar 24) 2) n_).b⟩,iW,iW,kr,zKP7⟩:FunT)]:List FunT) hx rfl (RL.cs ⟨none,0,none,0,none,0,none,0,rfl,by exact vyV,by exact vyV,by exact vyV,SR.nil,SR.nil,SR.nil,SR.nil⟩ RL.nl) rfl λxc xI xT uV qV kx=>kv (id:= .x ((r9:Fp).map Prod.fst)) (rs_app (α:=FunT) (q:=6) qU kx.G5 rfl rfl rfl (OS.sv qV kx.G5 (i:=11) rfl) rfl rfl rfl rfl rfl rfl rfl (vyA)) rfl rfl (by rintro _ _ t0 ⟨p4,qv,rfl,hp,_,hwr⟩;exact dl V V (Wr.did hwr)) (kb V) ?_
   rintro _ sx t0 ⟨p4,qv,rfl,hp,hy,_⟩ r4 qi;replace hy:=HS.lg hy kx qi;generalize ({sx with log:=r4}:Heap)=uW at hy⊢;refine sdo 2 262 262 [] [] (Hr_ 11 9 Hn_) hy V V λu7 wJ rq=>aQ 0 V (aj 3 V (sgr 1 284 284 [] [] (Hr_ 0 9 (Hr_ 1 0 Hn_)) rq V V λu9 wK rr=>?_))
   have⟨we,n5,rv,ik,vx⟩:=OS.Gi hA_ rr (i:=1) V;have hp:=hp.ac n5;have⟨wg,n6,pm,q4,vy⟩:=OS.Gi hp rv (i:=6) V;have ik:=ik.ac n6;refine ag ⟨.inr V,_,(rC V (bV V V (h_ pm V) V) rN),(⟨la,([(⟨⟨[102]⟩,bw,bt,bl,(⟨O.j,O.n,⟨O.pp.b⟩,O.op,O.I⟩:ExpT)⟩:FunT),(⟨⟨[103]⟩,a5,a8,T,(⟨E.j,E.n,⟨E.pp.b⟩,E.op,E.I⟩:ExpT)⟩:FunT)]:List FunT)++([(⟨⟨(Y oj (ah (Int.tdiv ar 24) 2) n_).b⟩,iW,iW,kr,zKP7⟩:FunT)]:List FunT)⟩:PrgT),aA,kA,p4,qv,_,(fT (fT (fT (fT (fT (fT (fT (fT (p8) e2) e3) e4) e5) e6) e7) n5) n6),(HS.G3 pm),V,ik,q4,(vyE)⟩
  refine wT 1 [] 263 264 [] [(263,(((ah ar 24:Nat):Int)==18))] V λ_=>zI 1 0 (λsZ=>?_) λsZ=>?_
  ·have⟨wh,e8,rx,it,vz⟩:=OS.Gi a3 cL (i:=2) V;have al:=al.ac e8;have⟨wi,fb,ry,iv,vB⟩:=OS.Gi al rx (i:=3) V;replace Z:=(Z.ac e8).ac fb;have⟨wl,fd,rz,i0,vC⟩:=OS.Gi Z ry (i:=7) V;replace an:=((an.ac e8).ac fb).ac fd;have⟨wn,fi,rA,i1,vD⟩:=OS.Gi an rz (i:=4) V;replace a2:=(((a2.ac e8).ac fb).ac fd).ac fi;have⟨wo,fk,rB,i2,vE⟩:=OS.Gi a2 rA (i:=5) V;replace bn:=((((bn.ac e8).ac fb).ac fd).ac fi).ac fk;have⟨lr,fq,rD,q5,vF⟩:=OS.Gi bn rB (i:=8) V;replace it:=((((it.ac fb).ac fd).ac fi).ac fk).ac fq;replace iv:=(((iv.ac fd).ac fi).ac fk).ac fq;replace i0:=((i0.ac fi).ac fk).ac fq;replace i1:=(i1.ac fk).ac fq;have i2:=i2.ac fq;replace ax:=(((((ax.ac e8).ac fb).ac fd).ac fi).ac fk).ac fq;replace a4:=(((((a4.ac e8).ac fb).ac fd).ac fi).ac fk).ac fq;let sa:Fp:=(fP bF [(tX [102]),(S_ b5 bw ch),(S_ b3 bt b9),(S_ b0 bl b7),O.j,O.n,(tX O.pp.b),O.op,(S_ b6 O.I ci),(tX [103]),(S_ a6 a5 a7),(S_ a9 a8 bb),(S_ b2 T b8),E.j,E.n,(tX E.pp.b),E.op,(S_ ba E.I bf)])
   have qW:OS lr (sL (some ⟨bF,0,none⟩) 2 2) ([(⟨⟨[102]⟩,bw,bt,bl,(⟨O.j,O.n,⟨O.pp.b⟩,O.op,O.I⟩:ExpT)⟩:FunT),(⟨⟨[103]⟩,a5,a8,T,(⟨E.j,E.n,⟨E.pp.b⟩,E.op,E.I⟩:ExpT)⟩:FunT)]:List FunT) sa:=nI (b:=bF) (α:=FunT) (l:=([(⟨⟨[102]⟩,bw,bt,bl,(⟨O.j,O.n,⟨O.pp.b⟩,O.op,O.I⟩:ExpT)⟩:FunT),(⟨⟨[103]⟩,a5,a8,T,(⟨E.j,E.n,⟨E.pp.b⟩,E.op,E.I⟩:ExpT)⟩:FunT)]:List FunT)) (show RL lr [(tX [102]),(S_ b5 bw ch),(S_ b3 bt b9),(S_ b0 bl b7),O.j,O.n,(tX O.pp.b),O.op,(S_ b6 O.I ci),(tX [103]),(S_ a6 a5 a7),(S_ a9 a8 bb),(S_ b2 T b8),E.j,E.n,(tX E.pp.b),E.op,(S_ ba E.I bf)] ([(⟨⟨[102]⟩,bw,bt,bl,(⟨O.j,O.n,⟨O.pp.b⟩,O.op,O.I⟩:ExpT)⟩:FunT),(⟨⟨[103]⟩,a5,a8,T,(⟨E.j,E.n,⟨E.pp.b⟩,E.op,E.I⟩:ExpT)⟩:FunT)]:List FunT) from⟨[(tX [102]),(S_ b5 bw ch),(S_ b3 bt b9),(S_ b0 bl b7),O.j,O.n,(tX O.pp.b),O.op,(S_ b6 O.I ci)],[(tX [103]),(S_ a6 a5 a7),(S_ a9 a8 bb),(S_ b2 T b8),E.j,E.n,(tX E.pp.b),E.op,(S_ ba E.I bf)],V,⟨b5,ch,b3,b9,b0,b7,b6,ci,V,by exact vyV,by exact vyV,by exact vyV,it,iv,i0,ax⟩,⟨[(tX [103]),(S_ a6 a5 a7),(S_ a9 a8 bb),(S_ b2 T b8),E.j,E.n,(tX E.pp.b),E.op,(S_ ba E.I bf)],[],V,⟨a6,a7,a9,bb,b2,b8,ba,bf,V,by exact vyV,by exact vyV,by exact vyV,i1,i2,q5,a4⟩,V⟩⟩);refine wT 2 [] 1 0 [16] [(16,(iI 0))] V λ_=>ak (λ(mm:Nat) f H'=> ∃(fz:List FunT) (j:Nat),∃g5 d1,∃(d4:Nat),∃F',lr.le F'/\Hb H F' H' [hS,pA,[],[],[],[],g5,[],[],(fP b4 [(S_ aA la kA),(S_ d1 fz d4)])] R/\OZ F' d1 fz d4 g5/\aI f [(6,(pT b1 0)),(7,(pT b4 0)),(9,(Int.tdiv ar 24)),(16,(j:Int))]/\mm=8-j/\(bkFs fz<=12000+80 *j)/\(j<=8)) _ ⟨([(⟨⟨[102]⟩,bw,bt,bl,(⟨O.j,O.n,⟨O.pp.b⟩,O.op,O.I⟩:ExpT)⟩:FunT),(⟨⟨[103]⟩,a5,a8,T,(⟨E.j,E.n,⟨E.pp.b⟩,E.op,E.I⟩:ExpT)⟩:FunT)]:List FunT),0,(sa:Fp),(some ⟨bF,0,none⟩),2,_,fR,rD,qW,f_,V,(vyE),(vyE)⟩ ?_
   rintro v2 xn sC ⟨fz,j,g5,d1,d4,wq,hX,k0,f7,o6,rfl,hb,hj⟩ rW;refine aw _ o6 (λ_=>?_);clear o6;replace hA_:=((((((hA_.ac e8).ac fb).ac fd).ac fi).ac fk).ac fq).ac hX;have yz:=iS fz;refine aj 2 V ?_;have u3:=aF (Int.tdiv ar 24) 8;refine wU 1 [(2,.o (iI ((ah (Int.tdiv ar 24) 8:Nat):Int)))] 265 268 [] [(268,(decide ((j:Int)<((ah (Int.tdiv ar 24) 8:Nat):Int))))] (ga.aE ex (Int.tdiv ar 24) 8 sC (vyV)) V λ_=>zd 3 3 (λs0=>?_) λs0=>?_
   ·refine ab (cS 5 0 271 275 [] [(272,(S_ d1 fz d4)),(275,(.int .u8 (97+(j:Int))))] (Hr_ 1 9 (Ha_ (vi (n:=97+(j:Int)) (vyV)) (Ha_ (vb (n:=97+(j:Int)) (vyV)) Hn_))) k0 V V λ_=>zlo [(UInt8.ofNat (97+j))] k0 V (RL.cs (u8r (n:=97+j) (vyV)) RL.nl) V λxd xJ xU wL qX pv=>ad (v:=(tX [(UInt8.ofNat (97+j))])) (oi V V V V (OS.sv qX pv (i:=10) V)) V V (cu 3 7 278 280 [] [(280,(aG [(tX ([104]++[(UInt8.ofNat (97+j))])),N_,N_,N_,(iI 1),(iI 0),(tX []),(iI 0),N_]))] (Ha_ (show([104]:List UInt8).length+Q ([(UInt8.ofNat (97+j))]:List UInt8)<=1099511627776 from by exact vyV) Hn_) K_ V λ_=>zlo ([(⟨⟨[104]++[(UInt8.ofNat (97+j))]⟩,iW,iW,kr,zKP8⟩:FunT)]:List FunT) pv V (RL.cs ⟨none,0,none,0,none,0,none,0,V,by exact vyV,by exact vyV,by exact vyV,SR.nil,SR.nil,SR.nil,SR.nil⟩ RL.nl) V λxe xK xV wM qY px=>?_));refine zao 6 f7 px (OS.sv qY px (i:=11) V) V V V (vyA) λsI tU t1 wN qZ rE=>sgo 2 12 283 283 [] [] (Hr_ 13 9 Hn_) rE V V λva wO rF=>ai 2 V (wU 1 [] 269 270 [16] [(16,(iI ((j:Int)+1)))] (vi (n:=(j:Int)+1) (vyV)) V λ_=>?_)
    refine rW _ _ _ ?_ ⟨fz++([(⟨⟨[104]++[(UInt8.ofNat (97+j))]⟩,iW,iW,kr,zKP8⟩:FunT)]:List FunT),j+1,t1,sI,tU,_,(hX),(HS.sub rF (a06 _ _)),qZ,f_,V,(vyE),(vyE)⟩;omega
   refine aj 3 V (sgr 1 284 284 [] [] (Hr_ 0 9 (Hr_ 1 0 Hn_)) k0 V V λvc wP rG=>?_);have⟨wt,n7,rH,i3,vG⟩:=OS.Gi hA_ rG (i:=1) V;have f7:=f7.ac n7;have⟨wu,oo,pS,q6,vH⟩:=OS.Gi f7 rH (i:=6) V;have i3:=i3.ac oo;refine ag ⟨.inr V,_,(rC V (bV V V (h_ pS V) V) rN),(⟨la,fz⟩:PrgT),aA,kA,d1,d4,_,(fT (fT (fT (fT (fT (fT (fT (fT (fT (p8) e8) fb) fd) fi) fk) fq) hX) n7) oo),(HS.G3 pS),V,i3,q6,(vyE)⟩
  exact dt _ _ ⟨aA,kA,la,pA,[102],b5,ch,bw,c4,b3,b9,bt,c3,b0,b7,bl,c0,O,b6,ci,[103],a6,a7,a5,pp1,a9,bb,a8,dn,b2,b8,T,pb1,E,ba,bf,_,fR,cL,(.inl hA_),(.inl a3),(.inl al),(.inl Z),(vyV),(vyV),(vyV),ax,(.inl an),(.inl a2),(.inl bn),(vyV),(vyV),(vyV),a4,f_,(vyE)⟩
 skip;clear hA_ a3 al Z s1 s3 s5 ax an a2 bn s2 s4 s6 a4;rintro yh x0 ⟨aA,kA,jA,pA,jn0,b5,ch,g7,c4,b3,b9,jl0,c3,b0,b7,g6,c0,a1,b6,ci,jn1,a6,a7,g3,pp1,a9,bb,g2,dn,b2,b8,g1,pb1,U,ba,bf,xW,s7,tz,jhA,tR,m0,mv,vT,vU,vV,n1,nn,nc,mx,vW,vX,vY,n2,p9,hbd⟩;refine aw _ p9 (λ_=>?_);clear p9;refine aj 3 V ?_;have⟨wv,fu,rI,i9,vJ⟩:=SO.Gi tR tz (i:=2) V;have m0:=m0.ac fu;have⟨ww,f1,rJ,jw,vK⟩:=SO.Gi m0 rI (i:=3) V;replace mv:=(mv.ac fu).ac f1;have⟨wx,f2,rK,j1,vM⟩:=SO.Gi mv rJ (i:=7) V;replace nn:=((nn.ac fu).ac f1).ac f2;have⟨wy,f3,rL,j2,vN⟩:=SO.Gi nn rK (i:=4) V;replace nc:=(((nc.ac fu).ac f1).ac f2).ac f3;have⟨wz,f4,rM,kd,vO⟩:=SO.Gi nc rL (i:=5) V;replace mx:=((((mx.ac fu).ac f1).ac f2).ac f3).ac f4;have⟨p3,f5,rO,q7,vP⟩:=SO.Gi mx rM (i:=8) V;replace i9:=((((i9.ac f1).ac f2).ac f3).ac f4).ac f5;replace jw:=(((jw.ac f2).ac f3).ac f4).ac f5;replace j1:=((j1.ac f3).ac f4).ac f5;replace j2:=(j2.ac f4).ac f5;have kd:=kd.ac f5;replace jhA:=(((((jhA.ac fu).ac f1).ac f2).ac f3).ac f4).ac f5;replace n1:=(((((n1.ac fu).ac f1).ac f2).ac f3).ac f4).ac f5;replace n2:=(((((n2.ac fu).ac f1).ac f2).ac f3).ac f4).ac f5;have h4:OS p3 (sL (some ⟨bF,0,none⟩) 2 2) ([(⟨⟨jn0⟩,g7,jl0,g6,(⟨a1.j,a1.n,⟨a1.pp.b⟩,a1.op,a1.I⟩:ExpT)⟩:FunT),(⟨⟨jn1⟩,g3,g2,g1,(⟨U.j,U.n,⟨U.pp.b⟩,U.op,U.I⟩:ExpT)⟩:FunT)]:List FunT) (fP bF [(tX jn0),(S_ b5 g7 ch),(S_ b3 jl0 b9),(S_ b0 g6 b7),a1.j,a1.n,(tX a1.pp.b),a1.op,(S_ b6 a1.I ci),(tX jn1),(S_ a6 g3 a7),(S_ a9 g2 bb),(S_ b2 g1 b8),U.j,U.n,(tX U.pp.b),U.op,(S_ ba U.I bf)]):=nI (b:=bF) (α:=FunT) (l:=([(⟨⟨jn0⟩,g7,jl0,g6,(⟨a1.j,a1.n,⟨a1.pp.b⟩,a1.op,a1.I⟩:ExpT)⟩:FunT),(⟨⟨jn1⟩,g3,g2,g1,(⟨U.j,U.n,⟨U.pp.b⟩,U.op,U.I⟩:ExpT)⟩:FunT)]:List FunT)) (show RL p3 [(tX jn0),(S_ b5 g7 ch),(S_ b3 jl0 b9),(S_ b0 g6 b7),a1.j,a1.n,(tX a1.pp.b),a1.op,(S_ b6 a1.I ci),(tX jn1),(S_ a6 g3 a7),(S_ a9 g2 bb),(S_ b2 g1 b8),U.j,U.n,(tX U.pp.b),U.op,(S_ ba U.I bf)] ([(⟨⟨jn0⟩,g7,jl0,g6,(⟨a1.j,a1.n,⟨a1.pp.b⟩,a1.op,a1.I⟩:ExpT)⟩:FunT),(⟨⟨jn1⟩,g3,g2,g1,(⟨U.j,U.n,⟨U.pp.b⟩,U.op,U.I⟩:ExpT)⟩:FunT)]:List FunT) from⟨[(tX jn0),(S_ b5 g7 ch),(S_ b3 jl0 b9),(S_ b0 g6 b7),a1.j,a1.n,(tX a1.pp.b),a1.op,(S_ b6 a1.I ci)],[(tX jn1),(S_ a6 g3 a7),(S_ a9 g2 bb),(S_ b2 g1 b8),U.j,U.n,(tX U.pp.b),U.op,(S_ ba U.I bf)],V,⟨b5,ch,b3,b9,b0,b7,b6,ci,V,by exact vyV,by exact vyV,by exact vyV,i9,jw,j1,n1⟩,⟨[(tX jn1),(S_ a6 g3 a7),(S_ a9 g2 bb),(S_ b2 g1 b8),U.j,U.n,(tX U.pp.b),U.op,(S_ ba U.I bf)],[],V,⟨a6,a7,a9,bb,b2,b8,ba,bf,V,by exact vyV,by exact vyV,by exact vyV,j2,kd,q7,n2⟩,V⟩⟩);refine sgr 1 284 284 [] [] (Hr_ 0 9 (Hr_ 1 0 Hn_)) rO V V λvd wQ rP=>?_
 have⟨wA,ox,rQ,ki,vQ⟩:=SO.Gi jhA rP (i:=1) V;have h4:=h4.ac ox;have⟨wB,o0,pU,q8,vR⟩:=OS.Gi h4 rQ (i:=6) V;have ki:=ki.ac o0;refine ag ⟨.inr V,_,(rC V (bV V V (h_ pU V) V) rN),(⟨jA,([(⟨⟨jn0⟩,g7,jl0,g6,(⟨a1.j,a1.n,⟨a1.pp.b⟩,a1.op,a1.I⟩:ExpT)⟩:FunT),(⟨⟨jn1⟩,g3,g2,g1,(⟨U.j,U.n,⟨U.pp.b⟩,U.op,U.I⟩:ExpT)⟩:FunT)]:List FunT)⟩:PrgT),aA,kA,(some ⟨bF,0,none⟩),2,_,(fT (fT (fT (fT (fT (fT (fT (fT (fT (p8) s7) fu) f1) f2) f3) f4) f5) ox) o0),(HS.G3 pU),V,ki,q8,(vyE)⟩
theorem mprog_c{ax aA}(l:List Int)(al:Int)(at_:Int)(hs:Hb H F H [] R)(hl:Sr F ax l aA)(ar:in64 al)(an:in64 at_):kKt ex 7 [(S_ ax l aA),al,at_] H λv H'=> ∃(x:PrgT),∃E,∃(T:Nat),∃O,∃(U:Nat),∃F',F.le F'/\Hb H F' H' [] R/\v= .agg ⟨[sL E (Q x.d) T,sL O (Q x.U) U]⟩/\Sr F' E x.d T/\Sr F' O x.U U/\(bkP x<=20000):=by
 have Z:=di (n:=at_) (m:=2) M;rcases (show ah at_ 2=0\/ah at_ 2=1 by omega) with hz|hz
 ·exact mprog0_c ex l al at_ hs hl ar an hz
 exact mprog1_c ex l al at_ hs hl ar an hz
end kp
open kp
namespace gp
open Go.R w3 l1 pt ga ca cb cc cd ta tb
theorem tx_le{n:Int}(h:in64 n):Q (dI n)<=20:=by
 unfold dI;split
 ·rw[a02];have:=kM 18 n.natAbs M;omega
 have:=kM 18 n.toNat M;omega
def InR(r:RdT):Prop:= ∀x∈r.l,in64 x
theorem hd_in{r:RdT}(h:InR r):in64 (hdG r):=by
 unfold hdG;cases e:r.l with
 |nil=>decide
 |cons x l=>exact h x (by rw[e];exact a0m ..)
theorem InR.of{r q:RdT}(h:InR r)(s:q.l<:+r.l):InR q:=λx E=>h x (s.subset E)
theorem dK(r:RdT):(au r).l<:+r.l:=List.tail_suffix _
def Nd:Nat->Nat
 |0=>1
 |d+1=>1+3 *Nd d
def Ld:Nat->Nat
 |0=>20
 |d+1=>3 *Ld d+12
theorem Nd_ge: ∀d,1<=Nd d
 |0=>a07 _
 |d+1=>by rw[Nd];omega
theorem Ld_ge: ∀d,20<=Ld d
 |0=>a07 _
 |d+1=>by have:=Ld_ge d;rw[Ld];omega
def inE:ExpT->Prop
 |⟨_,n,_,_,ks⟩=>in64 n/\inEs ks
where inEs:List ExpT->Prop
 | []=>True
 |e::l=>inE e/\inEs l
structure GE(f:Int)(d:Nat)(e:ExpT):Prop where
 nd:ndE e<=Nd d
 len:Q (fmE e)<=Ld d
 dp:dpE e<=d
 wf:wfE e=true
 nb:nbE e
 df:dfE (bo f) abG e=true
 S:inE e
theorem nm_mem(f n:Int):nmG f n∈bo f:=cr (nm_lt f _)
theorem nm_ok(f:Int): ∀s∈bo f,Q s.b=1/\vnm s.b=true/\eI (bo f) s.b=true:=by unfold bo;split<;>decide
theorem ab_mem(k:Nat)(h:k<2):Y abG k default∈abG:=cr h
theorem ab_ok: ∀s∈abG,Q s.b=1/\vnm s.b=true/\eI abG s.b=true:=by decide
theorem f8(e:ExpT)(m:Bool)(t:List UInt8):Q (opF e m t)<=Q t+2:=by
 unfold opF;split
 ·simp only[a00,a02,a03];omega
 omega
theorem opX_le(o:Int):Q (opX o)<=3:=by
 unfold opX;have h: ∀s∈opTx,Q s.b<=3:=by decide
 rcases a0p (o-4).toNat (Q opTx) with k|k
 ·exact h _ (cr k)
 rw[bW k];decide
section
variable {f:Int} {d:Nat}
theorem GE.num{n:Int}(h:in64 n):GE f d (mkE 1 n bP 0 []):=by
 have E:=Nd_ge d;have O:=Ld_ge d;refine⟨E,?_,a0h _,V,?_,V,?_⟩
 ·rw[fm_1 rfl];exact a0i (tx_le h) O
 ·show nbE ⟨1,n,bP,0,[]⟩;rw[nbE];exact⟨by decide,by rw[gD];trivial⟩
 show inE ⟨1,n,bP,0,[]⟩;rw[inE];exact⟨h,by rw[inE.inEs];trivial⟩
theorem GE.var{s:Str}(h:s∈bo f):GE f d (mkE 2 0 s 0 []):=by
 have⟨k1,k2,O⟩:=nm_ok f s h;have E:=Nd_ge d;have T:=Ld_ge d;refine⟨E,?_,a0h _,?_,?_,?_,?_⟩
 ·rw[fm_2 rfl];show Q s.b<=_;omega
 ·rw[wf_e];show(true&&vnm s.b)=true;rw[k2];rfl
 ·show nbE ⟨2,0,s,0,[]⟩;rw[nbE];exact⟨M,by rw[gD];trivial⟩
 ·rw[df_e];show(true&&(false||eI (bo f) s.b)&&true)=true;rw[O];rfl
 show inE ⟨2,0,s,0,[]⟩;rw[inE];exact⟨by decide,by rw[inE.inEs];trivial⟩
variable {a b c:ExpT} (ha:GE f d a) (hb:GE f d b) (hc:GE f d c)
include ha
theorem GE.idx{s:Str}(h:s∈abG):GE f (d+1) (mkE 3 0 s 0 [a]):=by
 have⟨k1,k2,E⟩:=ab_ok s h;refine⟨?_,?_,?_,?_,?_,?_,?_⟩
 ·rw[nd_e];show 1+hR [a]<=_;rw[hR,hR,Nd];have:=ha.nd;omega
 ·rw[fm_3 V rfl];show((s.b++[91])++fmE a++[93]).length<=_
  simp only[a00,a02,a03,Ld];have:=ha.len;omega
 ·rw[dp_e];show j5 [a]<=_;rw[j5,j5];have:=ha.dp;omega
 ·rw[wf_e];show(eQ [a]&&vnm s.b)=true;rw[eQ,eQ,ha.wf,k2];rfl
 ·show nbE ⟨3,0,s,0,[a]⟩;rw[nbE,gD,gD];exact⟨M,ha.nb,trivial⟩
 ·rw[df_e];show(fC _ _ [a]&&true&&(false||eI abG s.b))=true;rw[fC,fC,ha.df,E];rfl
 show inE ⟨3,0,s,0,[a]⟩;rw[inE,inE.inEs,inE.inEs];exact⟨by decide,ha.S,trivial⟩
theorem GE.un{o:Int}(h:o=20\/o=21):GE f (d+1) (mkE 4 0 bP o [a]):=by
 refine⟨?_,?_,?_,?_,?_,?_,?_⟩
 ·rw[nd_e];show 1+hR [a]<=_;rw[hR,hR,Nd];have:=ha.nd;omega
 ·have:=ha.len;rcases h with rfl|rfl
  ·rw[fm_n V V rfl];show([45]++opF a true (fmE a)).length<=_
   have:=f8 a true (fmE a);simp only[a00,a02,a03,Ld];omega
  rw[fm_t V V rfl];show([126]++opF a false (fmE a)).length<=_
  have:=f8 a false (fmE a);simp only[a00,a02,a03,Ld];omega
 ·rw[dp_e];show j5 [a]<=_;rw[j5,j5];have:=ha.dp;omega
 ·rw[wf_e];rcases h with rfl|rfl<;>(show(eQ [a]&&true)=true;rw[eQ,eQ,ha.wf];rfl)
 ·show nbE ⟨4,0,bP,o,[a]⟩;rw[nbE,gD,gD];exact⟨by decide,ha.nb,trivial⟩
 ·rw[df_e];show(fC _ _ [a]&&true&&true)=true;rw[fC,fC,ha.df];rfl
 show inE ⟨4,0,bP,o,[a]⟩;rw[inE,inE.inEs,inE.inEs];exact⟨by decide,ha.S,trivial⟩
include hb
theorem GE.bin{o:Int}(h:4<=o/\o<=18):GE f (d+1) (mkE 4 0 bP o [a,b]):=by
 refine⟨?_,?_,?_,?_,?_,?_,?_⟩
 ·rw[nd_e];show 1+hR [a,b]<=_;rw[hR,hR,hR,Nd];have:=ha.nd;have:=hb.nd;omega
 ·have E:=ha.len;have O:=hb.len
  rw[fm_b V (show o≠20 by omega) (show o≠21 by omega) rfl];show((((opF a false (fmE a)++[32])++opX o)++[32])++opF b false (fmE b)).length<=_;have:=f8 a false (fmE a);have:=f8 b false (fmE b);have:=opX_le o
  simp only[a00,a02,a03,Ld];omega
 ·rw[dp_e];show j5 [a,b]<=_;rw[j5,j5,j5];have:=ha.dp;have:=hb.dp;omega
 ·rw[wf_e];show(eQ [a,b]&&(true&&(binO o||false)))=true
  rw[eQ,eQ,eQ,ha.wf,hb.wf,show binO o=true by unfold binO;rw[decide_eq_true h.1,decide_eq_true h.2];rfl];rfl
 ·show nbE ⟨4,0,bP,o,[a,b]⟩;rw[nbE,gD,gD,gD];exact⟨by decide,ha.nb,hb.nb,trivial⟩
 ·rw[df_e];show(fC _ _ [a,b]&&true&&true)=true;rw[fC,fC,fC,ha.df,hb.df];rfl
 show inE ⟨4,0,bP,o,[a,b]⟩;rw[inE,inE.inEs,inE.inEs,inE.inEs];exact⟨by decide,ha.S,hb.S,trivial⟩
include hc
theorem GE.cond:GE f (d+1) (mkE 5 0 bP 0 [a,b,c]):=by
 refine⟨?_,?_,?_,?_,?_,?_,?_⟩
 ·rw[nd_e];show 1+hR [a,b,c]<=_;rw[hR,hR,hR,hR,Nd];have:=ha.nd;have:=hb.nd;have:=hc.nd;omega
 ·have E:=ha.len;have O:=hb.len;have T:=hc.len
  rw[fm_5 V rfl];show((((opF a false (fmE a)++[32,63,32])++opF b false (fmE b))++[32,58,32])++opF c false (fmE c)).length<=_;have:=f8 a false (fmE a);have:=f8 b false (fmE b);have:=f8 c false (fmE c)
  simp only[a00,a02,a03,Ld];omega
 ·rw[dp_e];show j5 [a,b,c]<=_;rw[j5,j5,j5,j5];have:=ha.dp;have:=hb.dp;have:=hc.dp;omega
 ·rw[wf_e];show(eQ [a,b,c]&&true)=true;rw[eQ,eQ,eQ,eQ,ha.wf,hb.wf,hc.wf];rfl
 ·show nbE ⟨5,0,bP,0,[a,b,c]⟩;rw[nbE,gD,gD,gD,gD];exact⟨by decide,ha.nb,hb.nb,hc.nb,trivial⟩
 ·rw[df_e];show(fC _ _ [a,b,c]&&true&&true)=true;rw[fC,fC,fC,fC,ha.df,hb.df,hc.df];rfl
 show inE ⟨5,0,bP,0,[a,b,c]⟩;rw[inE,inE.inEs,inE.inEs,inE.inEs,inE.inEs];exact⟨by decide,ha.S,hb.S,hc.S,trivial⟩
end
theorem leaf_ok{f n:Int}{d:Nat}{b:Bool}(h:in64 n):GE f d (gn f n b):=by
 unfold gn;split
 ·exact .var (nm_mem f n)
 exact .num (word_in h)
theorem jD{f:Int}: ∀(d:Nat) {r:RdT},InR r->GE f d (ap f d r).1/\(ap f d r).2.l<:+(au r).l/\(ap f d r).2.n=r.n
 |0,r,h=>⟨leaf_ok (hd_in h),a1Z _,V⟩
 |d+1,r,h=>by
  have hn:InR (au r):=h.of (dK r);obtain⟨T,E,U⟩:=jD d hn;have E:=E.trans (dK _);obtain⟨Z,O,b3⟩:=jD d (hn.of E);have O:=(O.trans (dK _)).trans E;obtain⟨c1,c2,c3⟩:=jD d (hn.of O);have c2:=(c2.trans (dK _)).trans O;rw[ap];split
  ·exact⟨leaf_ok (hd_in h),a1Z _,V⟩
  split
  ·exact⟨T.idx (ab_mem _ (a1R _ e_)),E,U⟩
  split
  ·exact⟨T.cond Z c1,c2,c3.trans (b3.trans U)⟩
  split
  ·refine⟨T.un ?_,E,U⟩;rcases a1s (ah ((hdG r).tdiv 16) 1000) with e|e<;>rw[e]
   ·exact .inl V
   exact .inr V
  exact⟨T.bin Z (by have:=a1R (ah ((hdG r).tdiv 16) 1000) (show 0<15 by decide);omega),O,b3.trans U⟩
end gp
end Go.Proofs.YtkpgbdkkgcdhmaaGreat
