/-
Symbolic runs of the code that the law reaches, part 1. No condition but bounds on lengths.
-/
import Derived.Test.YtkpgbdkkgcdhmaaGreatZURD
import Derived.Test.YtkpgbdkkgcdhmaaGreatChecked
import Derived.Test.YtkpgbdkkgcdhmaaGreatZURC
noncomputable section
namespace Go.Proofs.YtkpgbdkkgcdhmaaGreat
open Go.R
open Inhabited renaming default→n_
open List renaming getD→Y,length→Q
set_option maxRecDepth 10000
set_option maxHeartbeats 1000000
set_option linter.unusedVariables false
set_option linter.unusedSimpArgs false
abbrev kKt(e:FuncId):=Go.R.C Tryz.prog 0 (Go.R.KX e)
namespace l1
variable (ex:FuncId) {F:Fz} {H:Heap} {R:List Fp}
theorem ql{H:Heap}{b o:Nat}{cs:List Value}{w:Value}(t:TypeId)(i:Nat)(hc:HC H.get b o cs)(ha:ff Tryz.prog t=some false)(E:cs[i]?=some w):LDv Tryz.prog H t (.pointer (some ⟨b,o+i,none⟩)) w:=ld1 hc ha E
theorem qn{H:Heap}{b o:Nat}{cs l:List Value}(t:TypeId)(i n:Nat)(hc:HC H.get b o cs)(ha:ff Tryz.prog t=some true)(hs:dL Tryz.prog t=some n)(O:Nat.ble (i+n) (Q cs)=true)(E:eB (eK cs i) n=l):LDv Tryz.prog H t (.pointer (some ⟨b,o+i,none⟩)) (.agg ⟨l⟩):=ldN hc ha hs O E
structure Token where
 j:Int
 D:Str
 G2:Int
 deriving Inhabited
instance :Rp Token where
 sz:=3
 rep F cs x:=cs=[iI x.j,tX x.D.b,iI x.G2]/\in64 x.j/\in64 x.G2
 len:=by rintro F cs x ⟨rfl,_⟩;rfl
 one:=by rintro F cs x ⟨rfl,_⟩;rfl
 ac:=by intro F F' cs x _ h;exact h
theorem Token.vw{F}{get:Nat->Option AObj}{v:Value}{cf:Nat->List Value}{j:Nat}{l:List Token}(h:VW F get v l cf j)(T:j<Q l:=by first|(dsimp only;omega)|omega):HC get (sB v) (sO v+j *Rp.sz Token) [iI (Y l j default).j,tX (Y l j default).D.b,iI (Y l j default).G2]:=by have⟨⟨O,_⟩,E⟩:=h.1 default T;rw[show cf j=_ from O]at E;exact E
theorem Token.fx{F}{get:Nat->Option AObj}{v:Value}{cf:Nat->List Value}{j:Nat}{l:List Token}(h:VW F get v l cf j):in64 (Y l j default).j/\in64 (Y l j default).G2:=by
 rcases a0p j (Q l) with hj|hj
 ·have⟨⟨T,E,O⟩,_⟩:=h.1 default hj;exact⟨E,O⟩
 rw[bW hj];exact⟨by decide,by decide⟩
structure ErrT where
 L:Int
 G2:Int
 deriving Inhabited
instance :Rp ErrT where
 sz:=2
 rep F cs x:=cs=[iI x.L,iI x.G2]/\in64 x.L/\in64 x.G2
 len:=by rintro F cs x ⟨rfl,_⟩;rfl
 one:=by rintro F cs x ⟨rfl,_⟩;rfl
 ac:=by intro F F' cs x _ h;exact h
def cO(c:UInt8):Bool:=decide (97<=c.toNat)&&decide (c.toNat<=122)||decide (65<=c.toNat)&&decide (c.toNat<=90)||c.toNat==95
def bG(c:UInt8):Bool:=decide (48<=c.toNat)&&decide (c.toNat<=57)
def br(c:UInt8):Bool:=cO c||bG c
def aN(s:List UInt8):Nat:=Q (s.takeWhile br)
theorem hZ{p:UInt8->Bool}: ∀{s:List UInt8} {n:Nat},n<=Q s->(s.take n).all p=true->(n<Q s->p (Y s n 0)=false)->n=Q (s.takeWhile p)
 | [],n,h,_,_=>by simp at h;simp[h]
 |c::s,0,_,_,O=>by have:=O m_;simp only[List.getD_cons_zero]at this;rw[a1j,this];rfl
 |c::s,n+1,h,E,O=>by simp only[List.take_succ_cons,a0l,a04]at E;rw[a1j,E.1];have:=hZ (p:=p) (s:=s) (n:=n) (by simpa using h) E.2 (λT=>by have:=O (by simpa using T);simpa using this);simp[←this]
theorem ku(s:List UInt8):aN s<=Q s:=(List.takeWhile_prefix _).length_le
def kY:List UInt8:=[57,50,50,51,51,55,50,48,51,54,56,53,52,55,55,53,56,48,56]
def dy(s:List UInt8):Bool:=s.all bG&&((Y s 0 0 !=48||Q s==1)&&(decide (Q s<19)||Q s==19&&(Op.bytesLess s kY||s==kY)))
theorem vn1{s:List UInt8}{i:Nat}(h:i<Q s)(c:bG (Y s i 0)=false):false=dy s:=by
 have:s.all bG=false:=by rw[List.all_eq_false];refine⟨Y s i 0,?_,by simpa using c⟩;rw[a09,a08 h];exact a18 h
 simp[dy,this]
theorem all_of_take{p:UInt8->Bool}{s:List UInt8}{i:Nat}(h:Q s<=i)(E:(s.take i).all p=true):s.all p=true:=by rwa [a0s h]at E
theorem nat_beq48(c:UInt8):(((c.toNat:Int) !=48))=(c !=48):=by
 by_cases h:c=48
 ·subst h;rfl
 have:c.toNat≠48:=λe=>h (UInt8.toNat_inj.mp (by rw[e];rfl))
 have E:((c.toNat:Int) !=48)=true:=by simp;omega
 rw[E,eq_comm];simpa using h
theorem int_beq(a:Nat)(b:Nat):((a:Int)==(b:Int))=(a==b):=by rw[a0M];simp;omega
theorem vn2{s:List UInt8}(h:s.all bG=true):(((((Y s 0 0).toNat:Int) !=48)||((Q s:Int)==1))&&((decide ((Q s:Int)<19))||(((Q s:Int)==19)&&(Op.bytesLess s kY||s==kY))))=dy s:=by rw[dy,h,nat_beq48,show((Q s:Int)==1)=(Q s==1) from int_beq _ 1,show((Q s:Int)==19)=(Q s==19) from int_beq _ 19,a1b];rw[show decide ((Q s:Int)<19)=decide (Q s<19) from decide_eq_decide.mpr M]
def ek:List UInt8:=[43,45,42,47,37,38,124,94,126,33,60,62,61,63,58,59,44,40,41,123,125,91,93]
def cG(s:List UInt8):Nat:=
 if s.take 3=[62,62,62] then 3
 else if s.take 2=[60,60]\/s.take 2=[62,62]\/s.take 2=[60,61]\/s.take 2=[62,61]\/s.take 2=[61,61]\/s.take 2=[33,61] then 2
 else if Y s 0 0∈ek then 1 else 0
theorem tk3{s:List UInt8}{a b c:UInt8}(h:(3:Int)<=Q s->s.take 3≠ [a,b,c]): ¬s.take 3=[a,b,c]:=by intro e;refine h ?_ e;have:=congrArg List.length e;rw[a0V]at this;simp only[a02,a03]at this;omega
theorem tk2{s:List UInt8}{a b:UInt8}(h:(2:Int)<=Q s->s.take 2≠ [a,b]): ¬s.take 2=[a,b]:=by intro e;refine h ?_ e;have:=congrArg List.length e;rw[a0V]at this;simp only[a02,a03]at this;omega
theorem sing_mem{c:UInt8}{i:Nat}(h:i<23)(e:((c.toNat:Int))=((Y ek i 0).toNat:Int)):c∈ek:=by have:c=Y ek i 0:=UInt8.toNat_inj.mp (by exact_mod_cast e);rw[this,a09,a08 (show i<Q ek from h)];exact a18 _
theorem sing_ne{c:UInt8}{i j:Nat}(e:((c.toNat:Int))≠((Y ek i 0).toNat:Int))(E: ∀j,j<i->c≠Y ek j 0)(h:j<i+1):c≠Y ek j 0:=by
 rcases Nat.lt_succ_iff_lt_or_eq.mp h with h|h
 ·exact E j h
 subst h;intro O;exact e (by rw[O])
theorem sing_no{c:UInt8}(E: ∀j,j<23->c≠Y ek j 0):c∉ek:=by intro h;have⟨j,O,e⟩:=a1E h;refine E j O ?_;rw[a09,a08 O];exact e.symm
theorem isLetter_c(c:UInt8)(H:Heap):kKt ex 132 [(.int .u8 (c.toNat:Int))] H λv H'=> ∃(r:Bool),H'=H/\v= .bool r/\r=cO c:=by refine ay Tryz.func132 V V (aj 1 V (wr 2 [] 2 2 [] [(2,false)] trivial V V λ_=>wr 1 [] 2 20 [] [(2,((((decide ((97:Int)<=(c.toNat:Int)))&&(decide ((c.toNat:Int)<=122)))||((decide ((65:Int)<=(c.toNat:Int)))&&(decide ((c.toNat:Int)<=90))))||((c.toNat:Int)==95)))] trivial V V λ_=>ag ⟨.inr V,_,V,_,V,V,(by simp[cO];grind)⟩))
theorem isLetter_c_q(c:UInt8)(H:Heap):kKt ex 132 [(.int .u8 (c.toNat:Int))] H λv H'=>v=(.bool (cO c))/\H'=H:=
 cq (isLetter_c ex c H) (by rintro _ _ ⟨_,rfl,rfl,rfl⟩;exact⟨V,V⟩)
theorem isDigit_c(c:UInt8)(H:Heap):kKt ex 114 [(.int .u8 (c.toNat:Int))] H λv H'=> ∃(r:Bool),H'=H/\v= .bool r/\r=bG c:=by refine ay Tryz.func114 V V (aj 1 V (wr 2 [] 2 2 [] [(2,false)] trivial V V λ_=>wr 1 [] 2 8 [] [(2,((decide ((48:Int)<=(c.toNat:Int)))&&(decide ((c.toNat:Int)<=57))))] trivial V V λ_=>ag ⟨.inr V,_,V,_,V,V,(by simp[bG];grind)⟩))
theorem jz(c:UInt8)(H:Heap):kKt ex 114 [(.int .u8 (c.toNat:Int))] H λv H'=>v=(.bool (bG c))/\H'=H:=
 cq (isDigit_c ex c H) (by rintro _ _ ⟨_,rfl,rfl,rfl⟩;exact⟨V,V⟩)
theorem wordLen_c(s:List UInt8)(H:Heap)(hl:Q s<4611686018427387904):kKt ex 112 [(tX s)] H λv H'=> ∃(r:Nat),H'=H/\v=iI (r:Int)/\r=aN s:=by
 refine ay Tryz.func112 V V (aj 1 V (wr 2 [] 2 2 [] [(2,(.int _ 0))] trivial V V λ_=>wr 3 [] 1 0 [3] [(3,(.int _ 0))] trivial V V λ_=>ak (λ(mm:Nat) f H'=> ∃(n:Nat),H'=H/\aI f [(0,(tX s)),(3,(.int _ (n:Int)))]/\mm=Q s-n/\(n<=Q s)/\((s.take n).all br=true)) _ ⟨0,V,f_,V,M,k_⟩ ?_));rintro a1 f3 H ⟨n,rfl,O,rfl,h1,Z⟩ al;refine aw _ O (λ_=>?_);clear O;refine aj 2 V ?_;have ax:=gA (Y s n 0);have aA:=gA (Y s n 0);refine wr 1 [(8,.o (.bool (cO (Y s n 0)))),(13,.o (.bool (bG (Y s n 0))))] 4 19 [] [(19,((decide ((n:Int)<(Q s:Int)))&&(cO (Y s n 0)||bG (Y s n 0))))] (vA (λ(E:_)=>(vA (show(0:Int)<=(n:Int) from by(try simp only[BS]at E);omega) (show(n:Int)<((Q (s:List UInt8):Nat):Int) from by(try simp only[BS]at E);omega))) (vA (λ(E:_)=>(isLetter_c_q ex _ H)) (vA (λ(E:_) (U:_)=>(vA (show(0:Int)<=(n:Int) from by(try simp only[BS]at E U);omega) (show(n:Int)<((Q (s:List UInt8):Nat):Int) from by(try simp only[BS]at E U);omega))) (vA (λ(E:_) (U:_)=>(jz ex _ H)) trivial)))) V V λ_=>zI 2 5 (λT=>?_) λT=>?_
 ·have c:=T;refine wr 2 [] 20 21 [3] [(3,(.int _ _))] (vA (vi) trivial) V V λ_=>?_
  refine al _ _ _ ?_ ⟨n+1,V,f_,V,M,(by rw[kg M,Z,br];simpa using c.2)⟩;omega
 have c:=T;refine wr 1 [] 2 2 [22] [(2,(.int _ _))] trivial V V λ_=>ag ⟨.inr V,_,V,n,V,V,(hZ h1 Z (λhn=>by have:=c M;rw[br,this.1,this.2];rfl))⟩
theorem wordLen_c_q(s:List UInt8)(H:Heap)(E:Q s<4611686018427387904):kKt ex 112 [(tX s)] H λv H'=>v=(iI ((aN s:Nat):Int))/\H'=H:=
 cq (wordLen_c ex s H E) (by rintro _ _ ⟨_,rfl,rfl,rfl⟩;exact⟨V,V⟩)
theorem validNum_c(s:List UInt8)(H:Heap)(hl:Q s<4611686018427387904)(h0:0<Q s):kKt ex 115 [(tX s)] H λv H'=> ∃(r:Bool),H'=H/\v= .bool r/\r=dy s:=by
 refine ay Tryz.func115 V V (aj 1 V (wr 3 [] 2 2 [] [(2,false)] trivial V V λ_=>wr 2 [] 1 0 [3] [(3,(.int _ 0))] trivial V V λ_=>ak (λ(mm:Nat) f H'=> ∃(i:Nat),H'=H/\aI f [(0,(tX s)),(3,(.int _ (i:Int)))]/\mm=Q s-i/\(i<=Q s)/\((s.take i).all bG=true)) _ ⟨0,V,f_,V,M,k_⟩ ?_));rintro ax f3 H ⟨i,rfl,E,rfl,h1,U⟩ Z;refine aw _ E (λ_=>?_);clear E;refine aj 2 V (wr 1 [] 4 7 [] [(7,(decide ((i:Int)<(Q s:Int))))] trivial V V λ_=>zd 4 5 (λO=>?_) λO=>?_)
 ·have ci:=O;have an:=gA (Y s i 0);refine wr 1 [(3,.o (.bool (bG (Y s i 0))))] 10 14 [] [(14,(!(bG (Y s i 0))))] (vA (vA (show(0:Int)<=(i:Int) from by omega) (show(i:Int)<((Q (s:List UInt8):Nat):Int) from by omega)) (vA (jz ex _ H) trivial)) V V λ_=>zI 1 2 (λT=>?_) λT=>?_
  ·have c:=T;refine wr 1 [] 2 2 [] [(2,false)] trivial V V λ_=>ag ⟨.inr V,_,V,_,V,V,(vn1 M c)⟩
  have c:=T;refine wr 1 [] 8 9 [3] [(3,(.int _ _))] (vA (vi) trivial) V V λ_=>?_
  refine Z _ _ _ ?_ ⟨i+1,V,f_,V,M,(by rw[kg M,U,c];rfl)⟩;omega
 have ci:=O;have al:=gA (Y s 0 0);refine wr 1 [] 15 36 [2] [(2,(((((Y s 0 0).toNat:Int) !=48)||((Q s:Int)==1))&&((decide ((Q s:Int)<19))||(((Q s:Int)==19)&&(Op.bytesLess s _||s==([57,50,50,51,51,55,50,48,51,54,56,53,52,55,55,53,56,48,56]:List UInt8))))))] (vA (vA (show(0:Int)<=0 from by omega) (show(0:Int)<((Q (s:List UInt8):Nat):Int) from by omega)) trivial) V V λ_=>ag ⟨.inr V,_,V,_,V,V,(vn2 (all_of_take M U))⟩
theorem validNum_c_q(s:List UInt8)(H:Heap)(O:Q s<4611686018427387904)(E:0<Q s):kKt ex 115 [(tX s)] H λv H'=>v=(.bool (dy s))/\H'=H:=
 cq (validNum_c ex s H O E) (by rintro _ _ ⟨_,rfl,rfl,rfl⟩;exact⟨V,V⟩)
theorem symLen_c(s:List UInt8)(H:Heap)(h0:0<Q s):kKt ex 113 [(tX s)] H λv H'=> ∃(r:Nat),H'=H/\v=iI (r:Int)/\r=cG s:=by
 refine ay Tryz.func113 V V (aj 1 V (wr 3 [] 2 2 [] [(2,(.int _ 0))] trivial V V λ_=>wT 2 [] 6 7 [] [(6,(aG [(tX [62,62,62]),(tX [60,60]),(tX [62,62]),(tX [60,61]),(tX [62,61]),(tX [61,61]),(tX [33,61])])),(7,(iI 0))] V λ_=>cF (aj 1 V (wr 2 [] 8 8 [] [(8,true)] trivial V V λ_=>bx 4 V V V V (wr 2 [] 9 9 [4] [(4,(tX [62,62,62]))] trivial V V λ_=>wr 1 [] 10 22 [] [(22,((decide ((3:Int)<=(Q s:Int)))&&((s.take 3)==([62,62,62]:List UInt8))))] (vA (λ(E:_)=>(vA (show(0:Int)<=3 from by(try simp only[BS]at E);(first|omega|(show _<23;omega))) (show(3:Int)<=((Q (s:List UInt8):Nat):Int) from by(try simp only[BS]at E);(first|omega|(show _<23;omega))))) trivial) V V λ_=>zi 1 2 (λc6=>?_) λc6=>?_)))))
 ·try simp only[BS]at c6
  have nn:=(c6).2;refine wr 1 [] 23 24 [2] [(2,(.int _ 3))] trivial V V λ_=>ag ⟨.inr V,_,V,3,V,V,(by simp only[cG, *,↓reduceIte,true_or,or_true])⟩
 try simp only[BS]at c6
 first|have nn:=tk3 c6|have nn:=tk2 c6
 refine wr 1 [] 7 7 [25] [(7,(.int _ 1))] (vA (vi) trivial) V V λ_=>cF (aj 1 V (wr 2 [] 8 8 [] [(8,true)] trivial V V λ_=>bx 4 V V V V (wr 2 [] 9 9 [4] [(4,(tX [60,60]))] trivial V V λ_=>wr 1 [] 10 22 [] [(22,((decide ((2:Int)<=(Q s:Int)))&&((s.take 2)==([60,60]:List UInt8))))] (vA (λ(E:_)=>(vA (show(0:Int)<=2 from by(try simp only[BS]at E);(first|omega|(show _<23;omega))) (show(2:Int)<=((Q (s:List UInt8):Nat):Int) from by(try simp only[BS]at E);(first|omega|(show _<23;omega))))) trivial) V V λ_=>zi 1 2 (λO=>?_) λO=>?_)))
 ·try simp only[BS]at O
  have nn:=(O).2;refine wr 1 [] 23 24 [2] [(2,(.int _ 2))] trivial V V λ_=>ag ⟨.inr V,_,V,2,V,V,(by simp only[cG, *,↓reduceIte,true_or,or_true])⟩
 try simp only[BS]at O
 first|have nn:=tk3 O|have nn:=tk2 O
 refine wr 1 [] 7 7 [25] [(7,(.int _ 2))] (vA (vi) trivial) V V λ_=>cF (aj 1 V (wr 2 [] 8 8 [] [(8,true)] trivial V V λ_=>bx 4 V V V V (wr 2 [] 9 9 [4] [(4,(tX [62,62]))] trivial V V λ_=>wr 1 [] 10 22 [] [(22,((decide ((2:Int)<=(Q s:Int)))&&((s.take 2)==([62,62]:List UInt8))))] (vA (λ(E:_)=>(vA (show(0:Int)<=2 from by(try simp only[BS]at E);(first|omega|(show _<23;omega))) (show(2:Int)<=((Q (s:List UInt8):Nat):Int) from by(try simp only[BS]at E);(first|omega|(show _<23;omega))))) trivial) V V λ_=>zi 1 2 (λT=>?_) λT=>?_)))
 ·try simp only[BS]at T
  have nn:=(T).2;refine wr 1 [] 23 24 [2] [(2,(.int _ 2))] trivial V V λ_=>ag ⟨.inr V,_,V,2,V,V,(by simp only[cG, *,↓reduceIte,true_or,or_true])⟩
 try simp only[BS]at T
 first|have nn:=tk3 T|have nn:=tk2 T
 refine wr 1 [] 7 7 [25] [(7,(.int _ 3))] (vA (vi) trivial) V V λ_=>cF (aj 1 V (wr 2 [] 8 8 [] [(8,true)] trivial V V λ_=>bx 4 V V V V (wr 2 [] 9 9 [4] [(4,(tX [60,61]))] trivial V V λ_=>wr 1 [] 10 22 [] [(22,((decide ((2:Int)<=(Q s:Int)))&&((s.take 2)==([60,61]:List UInt8))))] (vA (λ(E:_)=>(vA (show(0:Int)<=2 from by(try simp only[BS]at E);(first|omega|(show _<23;omega))) (show(2:Int)<=((Q (s:List UInt8):Nat):Int) from by(try simp only[BS]at E);(first|omega|(show _<23;omega))))) trivial) V V λ_=>zi 1 2 (λU=>?_) λU=>?_)))
 ·try simp only[BS]at U
  have nn:=(U).2;refine wr 1 [] 23 24 [2] [(2,(.int _ 2))] trivial V V λ_=>ag ⟨.inr V,_,V,2,V,V,(by simp only[cG, *,↓reduceIte,true_or,or_true])⟩
 try simp only[BS]at U
 first|have nn:=tk3 U|have nn:=tk2 U
 refine wr 1 [] 7 7 [25] [(7,(.int _ 4))] (vA (vi) trivial) V V λ_=>cF (aj 1 V (wr 2 [] 8 8 [] [(8,true)] trivial V V λ_=>bx 4 V V V V (wr 2 [] 9 9 [4] [(4,(tX [62,61]))] trivial V V λ_=>wr 1 [] 10 22 [] [(22,((decide ((2:Int)<=(Q s:Int)))&&((s.take 2)==([62,61]:List UInt8))))] (vA (λ(E:_)=>(vA (show(0:Int)<=2 from by(try simp only[BS]at E);(first|omega|(show _<23;omega))) (show(2:Int)<=((Q (s:List UInt8):Nat):Int) from by(try simp only[BS]at E);(first|omega|(show _<23;omega))))) trivial) V V λ_=>zi 1 2 (λZ=>?_) λZ=>?_)))
 ·try simp only[BS]at Z
  have nn:=(Z).2;refine wr 1 [] 23 24 [2] [(2,(.int _ 2))] trivial V V λ_=>ag ⟨.inr V,_,V,2,V,V,(by simp only[cG, *,↓reduceIte,true_or,or_true])⟩
 try simp only[BS]at Z
 first|have nn:=tk3 Z|have nn:=tk2 Z
 refine wr 1 [] 7 7 [25] [(7,(.int _ 5))] (vA (vi) trivial) V V λ_=>cF (aj 1 V (wr 2 [] 8 8 [] [(8,true)] trivial V V λ_=>bx 4 V V V V (wr 2 [] 9 9 [4] [(4,(tX [61,61]))] trivial V V λ_=>wr 1 [] 10 22 [] [(22,((decide ((2:Int)<=(Q s:Int)))&&((s.take 2)==([61,61]:List UInt8))))] (vA (λ(E:_)=>(vA (show(0:Int)<=2 from by(try simp only[BS]at E);(first|omega|(show _<23;omega))) (show(2:Int)<=((Q (s:List UInt8):Nat):Int) from by(try simp only[BS]at E);(first|omega|(show _<23;omega))))) trivial) V V λ_=>zi 1 2 (λal=>?_) λal=>?_)))
 ·try simp only[BS]at al
  have nn:=(al).2;refine wr 1 [] 23 24 [2] [(2,(.int _ 2))] trivial V V λ_=>ag ⟨.inr V,_,V,2,V,V,(by simp only[cG, *,↓reduceIte,true_or,or_true])⟩
 try simp only[BS]at al
 first|have nn:=tk3 al|have nn:=tk2 al
 refine wr 1 [] 7 7 [25] [(7,(.int _ 6))] (vA (vi) trivial) V V λ_=>cF (aj 1 V (wr 2 [] 8 8 [] [(8,true)] trivial V V λ_=>bx 4 V V V V (wr 2 [] 9 9 [4] [(4,(tX [33,61]))] trivial V V λ_=>wr 1 [] 10 22 [] [(22,((decide ((2:Int)<=(Q s:Int)))&&((s.take 2)==([33,61]:List UInt8))))] (vA (λ(E:_)=>(vA (show(0:Int)<=2 from by(try simp only[BS]at E);(first|omega|(show _<23;omega))) (show(2:Int)<=((Q (s:List UInt8):Nat):Int) from by(try simp only[BS]at E);(first|omega|(show _<23;omega))))) trivial) V V λ_=>zi 1 2 (λan=>?_) λan=>?_)))
 ·try simp only[BS]at an
  have nn:=(an).2;refine wr 1 [] 23 24 [2] [(2,(.int _ 2))] trivial V V λ_=>ag ⟨.inr V,_,V,2,V,V,(by simp only[cG, *,↓reduceIte,true_or,or_true])⟩
 try simp only[BS]at an
 first|have nn:=tk3 an|have nn:=tk2 an
 refine wr 1 [] 7 7 [25] [(7,(.int _ 7))] (vA (vi) trivial) V V λ_=>cF (aj 1 V (wr 2 [] 8 8 [] [(8,false)] trivial V V λ_=>nz 6 V V V V (wr 2 [] 1 0 [5] [(5,(.int _ 0))] trivial V V λ_=>ak (λ(mm:Nat) f H'=> ∃(i:Nat),H'=H/\aI f [(0,(tX s)),(5,(.int _ (i:Int)))]/\mm=23-i/\(i<=23)/\(∀j,j<i->Y s 0 0≠Y ek j 0)) _ ⟨0,V,f_,V,M,(by intro j hj;omega)⟩ ?_)))
 rintro a7 a8 H ⟨i,rfl,a1,rfl,h1,h2⟩ a2;refine aw _ a1 (λ_=>?_);clear a1;refine aj 2 V (wr 1 [] 26 27 [] [(27,(decide ((i:Int)<23)))] trivial V V λ_=>zd 4 5 (λa3=>?_) λa3=>?_)
 ·have a5:=gA (Y s 0 0);have a6:=gA (Y ([43,45,42,47,37,38,124,94,126,33,60,62,61,63,58,59,44,40,41,123,125,91,93]:List UInt8) i 0);refine wrD 1 [] 30 34 [] [(34,(((Y s 0 0).toNat:Int)==((Y ([43,45,42,47,37,38,124,94,126,33,60,62,61,63,58,59,44,40,41,123,125,91,93]:List UInt8) i 0).toNat:Int)))] (vA (vA (show(0:Int)<=0 from by omega) (show(0:Int)<((Q (s:List UInt8):Nat):Int) from by omega)) (vA (vA (show(0:Int)<=(i:Int) from by omega) (show(i:Int)<((Q ([43,45,42,47,37,38,124,94,126,33,60,62,61,63,58,59,44,40,41,123,125,91,93]:List UInt8):Nat):Int) from by omega)) trivial)) V V V λ_=>zI 1 2 (λaA=>?_) λaA=>?_
  ·have ci:=aA;refine wr 1 [] 2 2 [] [(2,(.int _ 1))] trivial V V λ_=>ag ⟨.inr V,_,V,1,V,V,(by have ms:=sing_mem M ci;simp only[cG, *,↓reduceIte,or_self])⟩
  have ci:=aA;refine wr 1 [] 28 29 [5] [(5,(.int _ _))] (vA (vi) trivial) V V λ_=>?_
  refine a2 _ _ _ ?_ ⟨i+1,V,f_,V,M,(λj hj=>sing_ne ci h2 hj)⟩;omega
 refine wr 1 [] 2 2 [] [(2,(.int _ 0))] trivial V V λ_=>ag ⟨.inr V,_,V,0,V,V,(by have ms:=sing_no (λj hj=>h2 j M);simp only[cG, *,↓reduceIte,or_self])⟩
theorem symLen_c_q(s:List UInt8)(H:Heap)(E:0<Q s):kKt ex 113 [(tX s)] H λv H'=>v=(iI ((cG s:Nat):Int))/\H'=H:=
 cq (symLen_c ex s H E) (by rintro _ _ ⟨_,rfl,rfl,rfl⟩;exact⟨V,V⟩)
def spl:Bool->List UInt8->Nat
 |_,[]=>0
 |false,c::s=>if c=32\/c=9\/c=10\/c=13 then 1+spl false s else if c=35 then 1+spl true s else 0
 |true,c::s=>if c=10 then 1+spl false s else 1+spl true s
theorem nE: ∀(s:List UInt8) (b:Bool),spl b s<=Q s
 | [],b=>by simp[spl]
 |c::s,false=>by
  have E:=nE s false;have O:=nE s true
  rw[spl,a02];split
  ·omega
  split<;>omega
 |c::s,true=>by
  have E:=nE s false;have O:=nE s true
  rw[spl,a02];split<;>omega
theorem dropc{s:List UInt8}{n:Nat}(h:n<Q s):s.drop n=Y s n 0::s.drop (n+1):=by rw[a0O h,a09,a08 h];rfl
theorem u8i{c:UInt8}{k:Nat}(E:k<256)(h:(c.toNat:Int)=(k:Int)):c=UInt8.ofNat k:=by apply UInt8.toNat_inj.mp;rw[UInt8.toNat_ofNat'];omega
theorem u8e{c:UInt8}(k:Nat)(h:c=UInt8.ofNat k)(E:k<256:=by omega):(c.toNat:Int)=(k:Int):=by rw[h,UInt8.toNat_ofNat'];omega
theorem spE{b:Bool}{s:List UInt8}{n:Nat}(h: ¬n<Q s)(E:n<=Q s)(e:n+spl b (s.drop n)=spl false s):n=spl false s:=by rw[List.drop_of_length_le M]at e;simpa[spl] using e
theorem spA{s:List UInt8}{n:Nat}(h:n<Q s)(c:Y s n 0=32\/Y s n 0=9\/Y s n 0=10\/Y s n 0=13)(e:n+spl false (s.drop n)=spl false s):n+1+spl false (s.drop (n+1))=spl false s:=by rw[dropc h,spl,if_pos c]at e;omega
theorem spH{s:List UInt8}{n:Nat}(h:n<Q s)(c:Y s n 0=35)(e:n+spl false (s.drop n)=spl false s):n+spl true (s.drop n)=spl false s:=by rw[dropc h,spl,if_neg (by rw[c];decide),if_pos c]at e;rw[dropc h,spl,if_neg (by rw[c];decide)];exact e
theorem spT{s:List UInt8}{n:Nat}(h:n<Q s)(c:Y s n 0≠10)(e:n+spl true (s.drop n)=spl false s):n+1+spl true (s.drop (n+1))=spl false s:=by rw[dropc h,spl,if_neg c]at e;omega
theorem spN{s:List UInt8}{n:Nat}(E:n<=Q s)(c:n<Q s->Y s n 0=10)(e:n+spl true (s.drop n)=spl false s):n+spl false (s.drop n)=spl false s:=by
 by_cases h:n<Q s
 ·rw[dropc h,spl,if_pos (c h)]at e;rw[dropc h,spl,if_pos (.inr (.inr (.inl (c h))))];exact e
 rw[List.drop_of_length_le M]at e⊢;exact e
theorem spX{s:List UInt8}{n:Nat}(h:n<Q s)(c: ¬(Y s n 0=32\/Y s n 0=9\/Y s n 0=10\/Y s n 0=13))(c2:Y s n 0≠35)(e:n+spl false (s.drop n)=spl false s):n=spl false s:=by rw[dropc h,spl,if_neg c,if_neg c2]at e;exact e
theorem spaceLen_c(s:List UInt8)(H:Heap)(hl:Q s<4611686018427387904):kKt ex 76 [(tX s)] H λv H'=> ∃(r:Nat),H'=H/\v=iI (r:Int)/\r=spl false s:=by
 refine ay Tryz.func76 V V (aj 1 V (wr 2 [] 2 2 [] [(2,(.int _ 0))] trivial V V λ_=>wr 3 [] 1 0 [3] [(3,(.int _ 0))] trivial V V λ_=>ak (λ(mm:Nat) f H'=> ∃(n:Nat),H'=H/\aI f [(0,(tX s)),(3,(.int _ (n:Int)))]/\mm=Q s-n/\(n<=Q s)/\(n+spl false (s.drop n)=spl false s)) _ ⟨0,V,f_,V,M,m_⟩ ?_));rintro bn f3 H ⟨n,rfl,a1,rfl,h1,U⟩ T;refine aw _ a1 (λ_=>?_);clear a1;refine aj 2 V (wr 1 [] 4 7 [] [(7,(decide ((n:Int)<(Q s:Int))))] trivial V V λ_=>zd 3 5 (λc5=>?_) λc5=>?_)
 ·have bf:=gA (Y s n 0);refine wr 4 [] 8 10 [] [(10,(.int .u8 ((Y s n 0).toNat:Int)))] (vA (vA (show(0:Int)<=(n:Int) from by omega) (show(n:Int)<((Q (s:List UInt8):Nat):Int) from by omega)) trivial) V V λ_=>wr 1 [] 12 13 [] [(12,(((Y s n 0).toNat:Int)==32))] trivial V V λ_=>zi 1 1 (λZ=>?_) λZ=>?_
  ·have c9:=Z;try simp only[BS]at c9
   refine bx 0 V Z V V (wr 3 [] 17 18 [3] [(3,(.int _ _))] (vA (vi) trivial) V V λ_=>?_);refine T _ _ _ ?_ ⟨n+1,V,f_,V,M,(spA M (.inl (u8i (k:=32) M M)) U)⟩;omega
  have c9:=Z;try simp only[BS]at c9
  refine wr 1 [] 12 14 [] [(12,(((Y s n 0).toNat:Int)==9))] trivial V V λ_=>zi 1 1 (λE=>?_) λE=>?_
  ·have al:=E;try simp only[BS]at al
   refine bx 0 V E V V (wr 3 [] 17 18 [3] [(3,(.int _ _))] (vA (vi) trivial) V V λ_=>?_);refine T _ _ _ ?_ ⟨n+1,V,f_,V,M,(spA M (.inr (.inl (u8i (k:=9) M M))) U)⟩;omega
  have al:=E;try simp only[BS]at al
  refine wr 1 [] 12 15 [] [(12,(((Y s n 0).toNat:Int)==10))] trivial V V λ_=>zi 1 0 (λO=>?_) λO=>?_
  ·have an:=O;try simp only[BS]at an
   refine bx 0 V O V V (wr 3 [] 17 18 [3] [(3,(.int _ _))] (vA (vi) trivial) V V λ_=>?_);refine T _ _ _ ?_ ⟨n+1,V,f_,V,M,(spA M (.inr (.inr (.inl (u8i (k:=10) M M)))) U)⟩;omega
  have an:=O;try simp only[BS]at an
  refine wr 1 [] 12 16 [] [(12,(((Y s n 0).toNat:Int)==13))] trivial V V λ_=>zI 0 1 (λa4=>?_) λa4=>?_
  ·refine wr 3 [] 17 18 [3] [(3,(.int _ _))] (vA (vi) trivial) V V λ_=>?_
   refine T _ _ _ ?_ ⟨n+1,V,f_,V,M,(spA M (.inr (.inr (.inr (u8i (k:=13) M M)))) U)⟩;omega
  refine wr 1 [] 19 20 [] [(19,(((Y s n 0).toNat:Int)==35))] trivial V V λ_=>zI 1 1 (λa5=>?_) λa5=>?_
  ·refine ak (λ(mm:Nat) f H'=> ∃(m:Nat),H'=H/\aI f [(0,(tX s)),(3,(.int _ (m:Int)))]/\mm=Q s-m/\(m<=Q s)/\(m+spl _ (s.drop m)=spl _ s)/\(n<=m)) _ ⟨n,V,f_,V,M,(spH M (u8i (k:=35) M M) U),M⟩ ?_;rintro bb bl H ⟨m,rfl,ax,rfl,g1,g2,g3⟩ a3;refine aw _ ax (λ_=>?_);clear ax;refine aj 2 V ?_;have a8:=gA (Y s m 0);refine wr 1 [] 21 30 [] [(30,((decide ((m:Int)<(Q s:Int)))&&(((Y s m 0).toNat:Int) !=10)))] (vA (λ(g1:_)=>(vA (show(0:Int)<=(m:Int) from by(try simp only[BS]at g1);omega) (show(m:Int)<((Q (s:List UInt8):Nat):Int) from by(try simp only[BS]at g1);omega))) trivial) V V λ_=>zI 2 6 (λa6=>?_) λa6=>?_
   ·refine wr 2 [] 31 32 [3] [(3,(.int _ _))] (vA (vi) trivial) V V λ_=>?_
    refine a3 _ _ _ ?_ ⟨m+1,V,f_,V,M,(spT M (λh=>by have:=u8e 10 h;omega) g2),M⟩;omega
   have gm:n<m:=by
    rcases a0p n m with h|h
    ·exact h
    exfalso;have e:m=n:=M
    subst e;omega
   refine T _ _ _ ?_ ⟨m,V,f_,V,M,(spN g1 (λh=>(u8i (k:=10) M M)) g2)⟩;omega
  refine wr 1 [] 2 2 [11] [(2,(.int _ _))] trivial V V λ_=>ag ⟨.inr V,_,V,n,V,V,(by exact spX M (by rintro(h|h|h|h)<;>(first|(have:=u8e 32 h;omega)|(have:=u8e 9 h;omega)|(have:=u8e 10 h;omega)|(have:=u8e 13 h;omega))) (λh=>by have:=u8e 35 h;omega) U)⟩
 refine wr 1 [] 2 2 [33] [(2,(.int _ _))] trivial V V λ_=>ag ⟨.inr V,_,V,n,V,V,(spE M h1 U)⟩
theorem kS(s:List UInt8)(H:Heap)(E:Q s<4611686018427387904):kKt ex 76 [(tX s)] H λv H'=>v=(iI ((spl false s:Nat):Int))/\H'=H:=
 cq (spaceLen_c ex s H E) (by rintro _ _ ⟨_,rfl,rfl,rfl⟩;exact⟨V,V⟩)
def aL(s:List UInt8):Int×List UInt8×Int:=
 if aN s=0 then(if cG s=0 then(0,[],2) else(3,s.take (cG s),0))
 else if bG (Y s 0 0)=true then(if dy (s.take (aN s))=true then(2,s.take (aN s),0) else(0,[],2))
 else if 16<aN s then(0,[],6) else(1,s.take (aN s),0)
theorem symLen_le{s:List UInt8}(O:0<Q s):cG s<=Q s:=by
 have E: ∀{w:List UInt8} {n:Nat},s.take n=w->Q w=n->n<=Q s:=by intro w n e T;have:=congrArg List.length e;rw[a0V]at this;omega
 rw[cG];split
 ·exact E ‹_› V
 split
 ·rename_i h;rcases h with h|h|h|h|h|h<;>exact E h V
 split<;>omega
theorem a_0{p:Prop}(h:p:=by simp only[aL, *,↓reduceIte,a0j,not_false_eq_true]):p:=h
theorem first_c(s:List UInt8)(hs:Hb H F H [] R)(h0:0<Q s)(hl:Q s<4611686018427387904):kKt ex 77 [(tX s)] H λv H'=> ∃(t:Token) (e:Int),∃F',F.le F'/\Hb H F' H' [] R/\v= .tuple ⟨[.agg ⟨[iI t.j,tX t.D.b,iI t.G2]⟩,iI e]⟩/\in64 t.j/\in64 t.G2/\t=Token.mk (aL s).1 (Str.mk (aL s).2.1) 0/\e=(aL s).2.2:=by
 have hw:=ku s;have hy:=symLen_le h0;refine ay Tryz.func77 V V (aj 1 V (ab (bd (nG hs V) V V ?_)));rintro _ H2 _ ⟨b1,rfl,(E:HS _ _ _ [(fP b1 [(iI 0),(tX []),(iI 0)])] _),_⟩;refine za (.int _ 0) (ai 2 V (wr 4 [(1,.o (.int _ _))] 5 6 [4] [(4,(.int _ _))] (vA (wordLen_c_q ex s H2 M) trivial) V V λ_=>wr 1 [] 7 9 [] [(7,(((aN s:Nat):Int)==0))] trivial V V λ_=>zI 2 1 (λc5=>?_) λc5=>?_))
 ·have z0:aN s=0:=M
  refine wr 2 [(1,.o (.int _ _))] 10 11 [4] [(4,(.int _ _))] (vA (symLen_c_q ex s H2 M) trivial) V V λ_=>wr 1 [] 12 13 [] [(13,(((cG s:Nat):Int)==0))] trivial V V λ_=>zI 1 2 (λc8=>?_) λc8=>?_
  ·have z1:cG s=0:=M
   refine ab (wro 1 0 [] 14 14 [] [(14,(aG [_,_,_]))] trivial V V λ_=>gy (ck (q:=0) E V V V V V V V V V) V ?_);rintro _ bl _ ⟨(U:HS _ _ _ [_] _),_⟩;refine za _ (ai 1 V (ag ⟨.inr V,_,(rC V (bV V V (h_ U V) V) (rT V rN)),(⟨0,_,0⟩:Token),2,_,fR,(HS.G3 U),V,M,M,a_0,a_0⟩))
  have z1: ¬cG s=0:=M
  refine ab (wro 4 0 [] 15 18 [] [(18,(aG [_,(tX (s.take (cG s))),_]))] (vA (vA (show(0:Int)<=((cG s:Nat):Int) from by omega) (show((cG s:Nat):Int)<=((Q (s:List UInt8):Nat):Int) from by omega)) trivial) V V λ_=>gy (ck (q:=0) E V V V V V V V V V) V ?_);rintro _ bn _ ⟨(Z:HS _ _ _ [(fP b1 [(iI 3),(tX (s.take (cG s))),(iI 0)])] _),_⟩;refine za _ (ai 1 V (ag ⟨.inr V,_,(rC V (bV V V (h_ Z V) V) (rT V rN)),(⟨3,_,0⟩:Token),0,_,fR,(HS.G3 Z),V,M,M,a_0,a_0⟩))
 have z0: ¬aN s=0:=M
 have a4:=gA (Y s 0 0);refine wr 1 [(2,.o (.bool (bG (Y s 0 0))))] 19 22 [] [(19,(bG (Y s 0 0)))] (vA (vA (show(0:Int)<=0 from by omega) (show(0:Int)<((Q (s:List UInt8):Nat):Int) from by omega)) (vA (jz ex _ H2) trivial)) V V λ_=>zI 2 1 (λO=>?_) λO=>?_
 ·have z2:bG (Y s 0 0)=true:=O;refine wr 1 [(3,.o (.bool (dy (s.take (aN s)))))] 23 27 [] [(27,(!(dy (s.take (aN s)))))] (vA (vA (show(0:Int)<=((aN s:Nat):Int) from by omega) (show((aN s:Nat):Int)<=((Q (s:List UInt8):Nat):Int) from by omega)) (vA (validNum_c_q ex _ H2 (by(rw[a0V];omega)) (by(rw[a0V];omega))) trivial)) V V λ_=>zI 1 2 (λT=>?_) λT=>?_
  ·have z3:dy (s.take (aN s))=false:=by simpa using T
   refine ab (wro 1 0 [] 28 28 [] [(28,(aG [_,_,_]))] trivial V V λ_=>gy (ck (q:=0) E V V V V V V V V V) V ?_);rintro _ bt _ ⟨(al:HS _ _ _ [_] _),_⟩;refine za _ (ai 1 V (ag ⟨.inr V,_,(rC V (bV V V (h_ al V) V) (rT V rN)),(⟨0,_,0⟩:Token),2,_,fR,(HS.G3 al),V,M,M,a_0,a_0⟩))
  have z3:dy (s.take (aN s))=true:=by simpa using T
  refine ab (wro 4 0 [] 29 32 [] [(32,(aG [_,(tX (s.take (aN s))),_]))] (vA (vA (show(0:Int)<=((aN s:Nat):Int) from by omega) (show((aN s:Nat):Int)<=((Q (s:List UInt8):Nat):Int) from by omega)) trivial) V V λ_=>gy (ck (q:=0) E V V V V V V V V V) V ?_);rintro _ bw _ ⟨(an:HS _ _ _ [(fP b1 [(iI 2),(tX (s.take (aN s))),(iI 0)])] _),_⟩;refine za _ (ai 1 V (ag ⟨.inr V,_,(rC V (bV V V (h_ an V) V) (rT V rN)),(⟨2,_,0⟩:Token),0,_,fR,(HS.G3 an),V,M,M,a_0,a_0⟩))
 have z2:bG (Y s 0 0)=false:=O;refine wr 1 [] 33 35 [] [(33,(decide ((16:Int)<((aN s:Nat):Int))))] trivial V V λ_=>zd 1 3 (λa3=>?_) λa3=>?_
 ·have z4:16<aN s:=M
  refine ab (wro 1 0 [] 36 36 [] [(36,(aG [_,_,_]))] trivial V V λ_=>gy (ck (q:=0) E V V V V V V V V V) V ?_);rintro _ bF _ ⟨(ax:HS _ _ _ [_] _),_⟩;refine za _ (ai 1 V (ag ⟨.inr V,_,(rC V (bV V V (h_ ax V) V) (rT V rN)),(⟨0,_,0⟩:Token),6,_,fR,(HS.G3 ax),V,M,M,a_0,a_0⟩))
 have z4: ¬16<aN s:=M
 refine ab (wro 4 0 [] 37 40 [] [(40,(aG [_,(tX (s.take (aN s))),_]))] (vA (vA (show(0:Int)<=((aN s:Nat):Int) from by omega) (show((aN s:Nat):Int)<=((Q (s:List UInt8):Nat):Int) from by omega)) trivial) V V λ_=>gy (ck (q:=0) E V V V V V V V V V) V ?_);rintro _ b0 _ ⟨(aA:HS _ _ _ [(fP b1 [(iI 1),(tX (s.take (aN s))),(iI 0)])] _),_⟩;refine za _ (ai 1 V (ag ⟨.inr V,_,(rC V (bV V V (h_ aA V) V) (rT V rN)),(⟨1,_,0⟩:Token),0,_,fR,(HS.G3 aA),V,M,M,a_0,a_0⟩))
theorem take_len{s:List UInt8}{n:Nat}(h:n<=Q s):Q (s.take n)=n:=by rw[a0V];omega
theorem nT{s:List UInt8}(E:0<Q s):Q (aL s).2.1<=Q s/\((aL s).2.2=0->0<Q (aL s).2.1)/\0<=(aL s).2.2/\(aL s).2.2<10:=by
 have O:=ku s;have T:=symLen_le E;have l1:=take_len O;have l2:=take_len T;rw[aL];split
 ·split
  ·simp
  dsimp only;omega
 split
 ·split
  ·dsimp only;omega
  simp
 split
 ·simp
 dsimp only;omega
abbrev Sc:=List Token×Int×Int
def consT(t:Token)(r:Sc):Sc:=if r.2.1=0 then(t::r.1,r.2) else r
def preT(l:List Token)(r:Sc):Sc:=if r.2.1=0 then(l++r.1,r.2) else r
def dJ:Nat->List UInt8->Nat->Sc
 |0,_,_=>([],0,0)
 |f+1,s,at_=>
  if at_<Q s then
   if(aL (s.drop at_)).2.2=0 then
    consT ⟨(aL (s.drop at_)).1,⟨(aL (s.drop at_)).2.1⟩,at_⟩ (dJ f s (at_+Q (aL (s.drop at_)).2.1+spl false (s.drop (at_+Q (aL (s.drop at_)).2.1))))
   else([],(aL (s.drop at_)).2.2,at_)
  else([],0,0)
def bU(s:List UInt8):Sc:=if 20000<Q s then([],6,20000) else dJ (Q s+1) s (spl false s)
theorem pre_cons(l:List Token)(t:Token)(r:Sc):preT l (consT t r)=preT (l++[t]) r:=by
 unfold preT consT;by_cases h:r.2.1=0
 ·simp[h]
 simp[h]
theorem pre_nil(r:Sc):preT [] r=r:=by unfold preT;split<;>rfl
theorem scan_step{s:List UInt8}{at_ f:Nat}{l:List Token}{R:Sc}(h:at_<Q s)(O:Q s-at_<f)(e:(aL (s.drop at_)).2.2=0)(E:preT l (dJ f s at_)=R):
  preT (l++[⟨(aL (s.drop at_)).1,⟨(aL (s.drop at_)).2.1⟩,at_⟩]) (dJ (f-1) s (at_+Q (aL (s.drop at_)).2.1+spl false (s.drop (at_+Q (aL (s.drop at_)).2.1))))=R:=by
 obtain⟨g,rfl⟩: ∃g,f=g+1:=⟨f-1,M⟩
 rw[dJ,if_pos h,if_pos e,pre_cons]at E
 exact E
theorem scan_err{s:List UInt8}{at_ f:Nat}{l:List Token}{R:Sc}(h:at_<Q s)(O:Q s-at_<f)(e:(aL (s.drop at_)).2.2≠0)(E:preT l (dJ f s at_)=R):R=([],(aL (s.drop at_)).2.2,(at_:Int)):=by
 obtain⟨g,rfl⟩: ∃g,f=g+1:=⟨f-1,M⟩
 rw[dJ,if_pos h,if_neg e,preT,if_neg (e)]at E;exact E.symm
theorem scan_end{s:List UInt8}{at_ f:Nat}{l:List Token}{R:Sc}(h: ¬at_<Q s)(E:preT l (dJ f s at_)=R):R=(l,0,0):=by
 have:dJ f s at_=([],0,0):=by
  cases f with
  |zero=>rfl
  |succ f=>rw[dJ,if_neg h]
 rw[this,preT,if_pos V,a0k]at E;exact E.symm
theorem scan_c(s:List UInt8)(hs:Hb H F H [] R)(hl:Q s<4611686018427387904):kKt ex 37 [(tX s)] H λv H'=> ∃al,∃(kl:Nat) (l:List Token),∃p,∃(e:ErrT),∃F',F.le F'/\Hb H F' H' [p] R/\v= .tuple ⟨[sL al (Q l) kl,.agg ⟨[iI e.L,iI e.G2]⟩]⟩/\OZ F' al l kl p/\in64 e.L/\in64 e.G2/\l=(bU s).1/\e=ErrT.mk (bU s).2.1 (bU s).2.2:=by
 refine ay Tryz.func37 V V (aj 1 V (ab (za (sL _ 0 0) (bd (nG hs V) V V ?_))));rintro _ H2 _ ⟨b1,rfl,(bl:HS _ _ _ [(fP b1 [(iI 0),(iI 0)])] _),_⟩;refine ai 3 V (wr 1 [] 8 10 [] [(10,(decide ((20000:Int)<(Q s:Int))))] trivial V V λ_=>zd 1 2 (λc4=>?_) λc4=>?_)
 ·refine ab (wro 2 0 [] 2 2 [11] [(2,(sL _ 0 0)),(11,(aG [_,_]))] trivial V V λ_=>gy (ck (q:=0) bl V V V V V V V V V) V ?_);rintro _ H6 _ ⟨(bn:HS _ _ _ [(fP b1 [(iI 6),(iI 20000)])] _),_⟩;refine ai 1 V (ag ⟨.inr V,_,(rT V (rC V (bV V V (h_ bn V) V) rN)),_,0,_,[],(⟨6,20000⟩:ErrT),_,fR,(HS.cons (HS.G3 bn)),V,(OS.nil:OS _ _ _ []),M,M,(by rw[bU,if_pos M]),(by rw[bU,if_pos M])⟩)
 refine wr 3 [] 1 0 [4] [(4,(sL _ 0 0))] trivial V V λ_=>wr 2 [(1,.o (.int _ _))] 12 13 [5] [(5,(.int _ _))] (vA (kS ex s H2 M) trivial) V V λ_=>?_
 have an:=HS.snoc bl;have an:HS _ _ _ [_,[]] _:=an;refine ak (λ(mm:Nat) f H'=> ∃(at_:Nat) (l:List Token) (fu:Nat),∃T,∃(U:Nat),∃E F',F.le F'/\HS _ F' H' [_,E] R/\OZ F' T l U E/\aI f [(0,(tX s)),(3,(pT b1 0)),(4,(S_ T l U)),(5,(.int _ (at_:Int)))]/\mm=Q s-at_/\(at_<=Q s)/\(Q s-at_<fu)/\(preT l (dJ fu s at_)=bU s)/\(Q l<=at_)) _ ⟨_,_,Q s+1,_,0,[],_,fR,an,(OS.nil:OS _ _ _ []),⟨V,V,V,V,trivial⟩,V,(nE s _),M,(by rw[bU,if_neg M];(first|done|exact pre_nil _)),(a0h _)⟩ ?_;rintro dt f9 H9 ⟨at_,l,fu,T,U,E,F9,a2,a9,O,bf,rfl,h1,hf,h2,h3⟩ b8;refine aw _ bf (λ_=>?_);clear bf;refine aj 2 V (wr 1 [] 14 17 [] [(17,(decide ((at_:Int)<(Q s:Int))))] trivial V V λ_=>zd 4 5 (λb6=>?_) λb6=>?_)
 ·have hd:Q (s.drop at_)=Q s-at_:=a17 ..;have q:=nT (s:=s.drop at_) M;have sp:=nE (s.drop (at_+Q (aL (s.drop at_)).2.1)) false;rw[a17]at sp;refine ab (wro 3 0 [] 25 27 [] [(27,(tX (s.drop at_)))] (vA (vA (show(0:Int)<=(at_:Int) from by omega) (show(at_:Int)<=((Q (s:List UInt8):Nat):Int) from by omega)) trivial) V V λ_=>zc (first_c ex (s.drop at_) (HS.call a9) M M) ?_);rintro _ cL ⟨d1,dk,co,Z,ax,rfl,b3,b4,rfl,rfl⟩;replace ax:HS _ _ _ [_,E] _:=HS.G8 a9 V ax;have O:=O.ac Z;refine wro 3 4 [] 29 30 [24] [(29,(aG [_,_,_])),(30,(.int _ _))] trivial V V λ_=>bd (nG ax V) V V ?_
  rintro _ c0 _ ⟨aA,rfl,(b2:HS _ _ _ [_,_,(fP aA [(iI 0),(tX []),(iI 0)])] _),_⟩;refine gy (ck (q:=2) b2 V V V V V V V V V) V ?_;rintro _ c3 _ ⟨(a3:HS _ _ _ [_,_,(fP aA [((Token.mk (aL (s.drop at_)).1 (Str.mk (aL (s.drop at_)).2.1) 0).j),(tX (Token.mk (aL (s.drop at_)).1 (Str.mk (aL (s.drop at_)).2.1) 0).D.b),((Token.mk (aL (s.drop at_)).1 (Str.mk (aL (s.drop at_)).2.1) 0).G2)])] _),_⟩;refine za (.int _ _) (ai 3 V (wr 1 [] 31 32 [] [(32,((aL (s.drop at_)).2.2 !=0))] trivial V V λ_=>zI 1 2 (λb7=>?_) λb7=>?_))
  ·refine ab (wro 4 0 [] 33 35 [2] [(2,(sL _ 0 0)),(35,(aG [_,_]))] trivial V V λ_=>gy (ck (q:=0) a3 V V V V V V V V V) V ?_);rintro _ c5 _ ⟨(a4:HS _ _ _ [(fP b1 [((aL (s.drop at_)).2.2),(at_:Int)]),_,_] _),_⟩;refine ai 1 V (ag ⟨.inr V,_,(rT V (rC V (bV V V (h_ a4 V) V) rN)),_,0,_,[],(⟨(aL (s.drop at_)).2.2,(at_:Int)⟩:ErrT),_,(fT (a2) Z),(HS.cons (HS.G3 a4)),V,(OS.nil:OS _ _ _ []),M,M,(by rw[scan_err M hf M h2]),(by rw[scan_err M hf M h2])⟩)
  refine ab (wro 2 0 [] 36 37 [] [(36,(.int _ _)),(37,(pT aA 2))] trivial V V λ_=>gy (ck (q:=2) a3 V V V V V V V V V) V ?_);rintro _ c6 _ ⟨(a5:HS _ _ _ [_,_,(fP aA [((Token.mk (aL (s.drop at_)).1 (Str.mk (aL (s.drop at_)).2.1) 0).j),(tX (Token.mk (aL (s.drop at_)).1 (Str.mk (aL (s.drop at_)).2.1) 0).D.b),(at_:Int)])] _),_⟩;refine ai 2 V (ab (wro 2 0 [(1,.o (aG [_,_,_]))] 38 39 [] [(38,(sL _ _ _)),(39,(aG [_,_,_]))] (vA (qn 112 0 3 (HS.hc a5 (i:=2) V) V V V V) trivial) V V λ_=>bd (ja ([(⟨(Token.mk (aL (s.drop at_)).1 (Str.mk (aL (s.drop at_)).2.1) 0).j,⟨(Token.mk (aL (s.drop at_)).1 (Str.mk (aL (s.drop at_)).2.1) 0).D.b⟩,(at_:Int)⟩:Token)]:List Token) a5 V V V V ⟨_,[],V,⟨V,M,M⟩,V⟩ V) V V ?_));rintro _ c7 b9 ⟨c9,dn,rfl,bF,(a6:HS _ _ _ [_,_,_,b9] _),_⟩;refine bd (rs_app (q:=1) O a6 V V V (OS.sv bF a6 (i:=3) V) V V V V V V V M) V V ?_;rintro _ b5 bw ⟨bb,bt,rfl,b0,(a7:HS _ _ _ [_,bw,_,_] _),_⟩;refine za (sL bb _ bt) (ai 1 V (wr 2 [(2,.o (tX (Token.mk _ _ 0).D.b))] 42 46 [5] [(5,(.int _ _))] (vA (ql 9 1 (HS.hc a7 (i:=2) V) V V) (vA (vi) trivial)) V V λ_=>wr 1 [(4,.o (iI _))] 18 23 [5] [(5,(.int _ _))] (vA (vA (show(0:Int)<=(at_:Int)+(Q (Token.mk _ _ 0).D.b:Int) from by omega) (show(at_:Int)+(Q (Token.mk _ _ 0).D.b:Int)<=((Q (s:List UInt8):Nat):Int) from by(dsimp only;omega))) (vA (kS ex (s.drop (at_+Q (Token.mk _ _ 0).D.b)) b5 (by(rw[a17];omega))) (vA (vi M) trivial))) V V λ_=>?_));refine b8 _ _ _ ?_ ⟨_,_,_,bb,bt,bw,_,(fT (a2) Z),(HS.sub a7 (a06 _ _)),b0,⟨V,V,V,V,trivial⟩,V,(by dsimp only;omega),(by dsimp only;omega),(scan_step M hf M h2),(by rw[a00,a0v];dsimp only;omega)⟩;dsimp only;omega
 refine ab (wro 3 0 [] 47 48 [2] [(2,(sL _ _ _)),(48,(aG [_,_]))] trivial V V λ_=>gy (ck (q:=0) a9 V V V V V V V V V) V ?_);rintro _ c8 _ ⟨(a8:HS _ _ _ [_,E] _),_⟩;refine ai 1 V (ag ⟨.inr V,_,(rT V (rC V (bV V V (h_ a8 V) V) rN)),_,_,l,_,(⟨0,0⟩:ErrT),_,(a2),(HS.only a8 (i:=1) V),V,O,M,M,(by rw[scan_end M h2]),(by rw[scan_end M h2])⟩)
def mA(n m:Int):Int:=bif decide (Int.tmod n m<0) then Int.tmod n m+m else Int.tmod n m
theorem pick_c(n:Int)(m:Int)(H:Heap)(Z:0<m/\m<9223372036854775808):kKt ex 17 [n,m] H λv H'=> ∃(r:Int),H'=H/\v=iI r/\r=mA n m/\(0<=r/\r<m):=by
 have T: -m<n.tmod m:=Int.lt_tmod_of_pos n Z.1;have U:n.tmod m<m:=Int.tmod_lt_of_pos n Z.1;refine ay Tryz.func17 V V (aj 1 V (wr 2 [] 4 4 [] [(4,(.int _ 0))] trivial V V λ_=>wr 3 [] 5 7 [0] [(0,(.int _ _))] (vA (show m≠0 from by omega) trivial) V V λ_=>wr 1 [] 8 9 [] [(9,(decide (Int.tmod n m<0)))] trivial V V λ_=>zi 0 2 (λE=>?_) λE=>?_))
 ·have O:=E;try simp only[BS]at O
  refine wr 2 [] 10 12 [0] [(0,(.int _ _))] (vA (vi) trivial) V V λ_=>wr 1 [] 4 4 [13] [(4,(.int _ _))] trivial V V λ_=>ag ⟨.inr V,_,V,_,V,V,(by simp only[mA,E,cond_true,cond_false]),M⟩
 have O:=E;try simp only[BS]at O
 refine wr 1 [] 4 4 [13] [(4,(.int _ _))] trivial V V λ_=>ag ⟨.inr V,_,V,_,V,V,(by simp only[mA,E,cond_true,cond_false]),M⟩
theorem pick_c_q(n:Int)(m:Int)(H:Heap)(E:0<m/\m<9223372036854775808):kKt ex 17 [n,m] H λv H'=>v=(iI (mA n m))/\H'=H:=
 cq (pick_c ex n m H E) (by rintro _ _ ⟨_,rfl,rfl,rfl,_⟩;exact⟨V,V⟩)
end l1
open l1
namespace w1
def mA9(n m:Int):Int:=bif decide (Int.tmod n m<0) then Int.tmod n m+m else Int.tmod n m
end w1
open w1
namespace w3
variable (ex:FuncId) {F:Fz} {H:Heap} {R:List Fp}
theorem pow_le{i k:Nat}(h:i<=k):10^i<=10^k:=Nat.pow_le_pow_right e_ h
theorem w_tail{s:List UInt8}:s.tail=s.drop 1:=by cases s<;>rfl
theorem im{t:List UInt8}:lB t=true↔1<=Q t/\(Q t)<=19/\t.all fM=true/\(Y t 0 0=48->Q t=1):=by
 unfold lB;have e:t.headD 0=Y t 0 0:=by cases t<;>rfl
 rw[e];simp only[a04,a0E,decide_eq_true_eq,bne_iff_ne,ne_eq,beq_iff_eq,and_assoc];constructor
 ·rintro⟨O,T,U,E⟩;exact⟨O,T,U,λh=>by rcases E with E|E;exact absurd h E;exact E⟩
 rintro⟨O,T,U,E⟩;exact⟨O,T,U,by by_cases h:Y t 0 0=48;exact .inr (E h);exact .inl h⟩
theorem pB{c:UInt8}:fM c=true↔48<=c.toNat/\c.toNat<=57:=by simp[fM]
theorem u8eq{c:UInt8}{n:Nat}(h:n<256):(c.toNat:Int)=(n:Int)↔c=UInt8.ofNat n:=by
 constructor
 ·intro E;apply UInt8.toNat_inj.1;rw[UInt8.toNat_ofNat'];omega
 rintro rfl;rw[UInt8.toNat_ofNat'];omega
theorem dec_step{m q:Nat}{bs:List UInt8}{d:List UInt8}(hb:Q bs=20)(T:1<=q)(O:q<=20)(h:d=dec m++bs.drop q):
  (0<m/10->d=dec (m/10)++(bs.set (q-1) (UInt8.ofNat (48+m%10))).drop (q-1))/\(m/10=0->d=(bs.set (q-1) (UInt8.ofNat (48+m%10))).drop (q-1)):=by
 have e:(bs.set (q-1) (UInt8.ofNat (48+m%10))).drop (q-1)=UInt8.ofNat (48+m%10)::bs.drop q:=by
  apply a1A;intro i;rw[a0L];cases i with
  |zero=>rw[List.getElem?_cons_zero,a25,List.getElem?_set_self M]
  |succ i=>rw[a1q,a0L,List.getElem?_set_ne M];congr 1;omega
 rw[e]
 refine⟨λE=>?_,λE=>?_⟩
 ·rw[h,kN M];simp[decD]
 rw[h,eX M]
 have:m%10=m:=M
 rw[this];rfl
theorem tx0{l:List UInt8}(h:Q l<=20):Q ([45]:List UInt8)+Q l<=1099511627776:=by simp;omega
theorem tx1{n:Int}(T:in64 n):(n<0->[45]++dec (IntKind.u64.wrap (0-IntKind.u64.wrap n)).toNat=dI n)/\(¬n<0->dec (IntKind.u64.wrap n).toNat=dI n):=by
 have⟨E,O⟩:=T;rw[l9,l9];refine⟨λh=>?_,λh=>?_⟩
 ·rw[dI,if_pos h,show((0-n%18446744073709551616)%18446744073709551616).toNat=n.natAbs by omega];rfl
 rw[dI,if_neg h,show(n%18446744073709551616).toNat=n.toNat by omega]
theorem dec_le{n:Int}(h:0<=n/\n<18446744073709551616):Q (dec n.toNat)<=20:=kM 19 _ M
theorem digits_c(n:Int)(hs:Hb H F H [] R)(hn:0<=n/\n<18446744073709551616):kKt ex 53 [(.int .u64 n)] H λv H'=> ∃(r:List UInt8),∃F',F.le F'/\Hb H F' H' [] R/\v=tX r/\r=dec n.toNat:=by
 obtain⟨m0,rfl⟩:=a0T hn.1;refine ay Tryz.func53 V V (aO (ab (za (tX []) (aB (av (aO (ab (bd (rs_arr (List.replicate 20 (0:UInt8)) hs V (RL.replicate (z:=[(.int .u8 0)]) V 20) V) V V ?_))))))));rintro _ H2 p1 ⟨b1,rfl,a1,(bb:HS _ _ _ [p1] _),_,a7⟩;have b3:=OS.len' a1;refine aB (av (aO (ab (za _ (aB (av (gJ (ak (λ(mm:Nat) f H'=> ∃(m:Nat) (q:Nat) (bs:List UInt8),∃E F',F.le F'/\HS _ F' H' [E] R/\OS F' (sL _ 20 20) bs E/\(∃cs,E=[(b1,.cells cs _ _)])/\aI f [(0,(.int _ (m:Int))),(3,(pT b1 0)),(4,(.int _ (q:Int)))]/\mm=q+1/\(q<=20)/\(m<10^q)/\(q=20\/0<m)/\(dec m0=dec m++bs.drop q)/\(m<18446744073709551616)) _ ⟨m0,20,_,p1,_,fR,bb,a1,a7,⟨V,V,V,trivial⟩,V,M,M,M,m_,M⟩ ?_))))))));rintro b5 f3 H3 ⟨m,q,bs,E,F3,ax,bf,U,an,aA,rfl,h1,h2,h3,h4,h5⟩ bl;refine aw _ aA (λ_=>?_);clear aA;have bF:=OS.len' U;have b4:1<=q:=by
  rcases a1g q with h|h
  ·subst h;omega
  exact h
 obtain⟨q1,a9⟩: ∃q1,q=q1+1:=⟨q-1,M⟩
 refine gJ (aO (ab (zm _ (ad (ap_sub V V (natsub (b:=1) M (lA M))) V V (za _ (aB (av (aO (ab (zm _ (zm _ (ad (v:=(.int _ ((m%10:Nat):Int))) (ap_mod V V e_ V) V V (ad (iC V V (oy M)) V V (ad (ap_cv V V V (w_u8 M)) V V (ad (v:=(.pointer (some ⟨_,sO (sL _ 20 20)+(q-1) *Rp.sz UInt8,_⟩))) (ap_idxA (j:=((q-1:Nat):Int)) V V V V M M) V V (gy (rs_stA (off:=0) (q:=0) _ U bf V V V V V V V V (aT (x:=default) M) V (by rintro cs rfl;exact⟨a0d V,u8r (n:=48+(m%10)) M⟩) an) V ?_))))))))))))))));rintro _ H6 p4 ⟨al,(T:HS _ _ _ [p4] _),_,Z⟩;have b2:=OS.len' al;refine aB (av (aO (ab (zm (.int _ (m:Int)) (ad (ap_div V V e_ (oy (n:=((m/10:Nat):Int)) M)) V V (za _ (aB (av (aO (ab (zm _ (ad (bK V V V V) V V (aB (av (ed V V (λc7=>?_) (λc7=>?_))))))))))))))))
 ·try simp only[BS]at c7
  refine aO (ab (zm (.int _ ((q-1:Nat):Int)) (bd (rs_cutA (i:=q-1) al T (q:=0) V V V V optN0 (optN M) M M Z) V V ?_)));rintro _ _ _ ⟨a8,k8,rfl,O,ba⟩;simp only at O;replace O:=O.symm;subst O;refine ad (oi V V V V (OS.sv ba T (i:=0) V)) V V (za _ (aB (av (ag ⟨.inr V,_,V,((bs.set (q-1) (UInt8.ofNat (48+(m%10)))).take 20).drop (q-1),_,(ax),(HS.G3 T),V,(by rw[a0s M];exact((dec_step X M h1 h4).2 M).symm)⟩))))
 try simp only[BS]at c7
 refine fp (av ?_);refine bl _ _ _ ?_ ⟨_,_,_,p4,_,(fT ax fR),T,al,Z,⟨V,V,V,trivial⟩,V,M,(by rw[show q-1=q1 by omega];rw[a9,a1U]at h2;omega),M,((dec_step X M h1 h4).1 M),M⟩;omega
theorem text_c(n:Int)(hs:Hb H F H [] R)(hn:in64 n):kKt ex 23 [n] H λv H'=> ∃(r:List UInt8),∃F',F.le F'/\Hb H F' H' [] R/\v=tX r/\r=dI n:=by
 refine ay Tryz.func23 V V (aO (ab (za (tX []) (aB (av (aO (aO (ab (zm _ (ad (bK V V V V) V V (aB (av (ed V V (λc1=>?_) (λc1=>?_))))))))))))))
 ·try simp only[BS]at c1
  refine aO (ab (zm _ (ad (ap_cv V V V V) V V (ad (ap_ng V V) V V (zc (digits_c ex (IntKind.u64.wrap (0-(IntKind.u64.wrap n))) (HS.call hs) (by(simp only[l9];omega))) ?_)))));rintro _ H2 ⟨r2,Z,T,E,rfl,rfl⟩;replace E:HS _ _ _ [] _:=HS.G8 hs V E;refine ad (pL V V (tx0 (dec_le ⟨by simp only[l9];omega,by simp only[l9];omega⟩))) V V (za _ (aB (av (ag ⟨.inr V,_,V,_,_,(T),(HS.G3 E),V,((tx1 hn).1 X)⟩))))
 try simp only[BS]at c1
 refine av (aO (ab (zm _ (ad (ap_cv V V V V) V V (zc (digits_c ex (IntKind.u64.wrap n) (HS.call hs) (by(simp only[l9];omega))) ?_)))));rintro _ H3 ⟨r3,F3,U,O,rfl,rfl⟩;replace O:HS _ _ _ [] _:=HS.G8 hs V O;refine za _ (aB (av (ag ⟨.inr V,_,V,_,_,(U),(HS.G3 O),V,((tx1 hn).2 X)⟩)))
theorem head_getD{t:List UInt8}:t.headD 0=Y t 0 0:=by cases t<;>rfl
theorem c48{c:UInt8}:(c.toNat:Int)=48↔c=48:=u8eq (n:=48) e_
theorem c45{c:UInt8}:(c.toNat:Int)=45↔c=45:=u8eq (n:=45) e_
def sgn:Option Nat->Option Int
 |some 0=>none
 |some n=>some (-(n:Int))
 |none=>none
theorem parse_b{s:List UInt8}(h:0<(Q s:Int)/\((Y s 0 0).toNat:Int)=45):bu s=sgn (posS (s.drop 1) 9223372036854775808):=by
 unfold bu;rw[head_getD,if_pos (c45.1 h.2),w_tail];cases posS (s.drop 1) 9223372036854775808 with
 |none=>rfl
 |some n=>cases n<;>rfl
theorem parse_p{s:List UInt8}(h:0<(Q s:Int)->((Y s 0 0).toNat:Int)≠45):bu s=(posS s 9223372036854775807).map λn=>(n:Int):=by
 unfold bu;have:s.headD 0≠45:=by
  rw[head_getD];intro e;cases s with
  |nil=>cases e
  |cons a l=>exact h m_ (c45.2 e)
 rw[if_neg this];cases posS s 9223372036854775807<;>rfl
theorem ps_len{t:List UInt8}{m:Nat}(h:Q t<1\/19<Q t):posS t m=none:=by unfold posS;rw[if_neg];rintro⟨E,_⟩;have⟨O,T,_⟩:=im.1 E;omega
theorem ps_zero{t:List UInt8}{m:Nat}(h:Y t 0 0=48):posS t m=if Q t=1 then some 0 else none:=by
 unfold posS;split
 ·rename_i E;have⟨O,U,Z,T⟩:=im.1 E.1;rw[if_pos (T h)];match t,T h with
  | [a],_=>
   have:a=48:=h
   subst this;rfl
 rename_i E;split
 ·rename_i O;exfalso;apply E;match t,O with
  | [a],_=>
   have:a=48:=h
   subst this;exact⟨by decide,by show 0<=m;omega⟩
 rfl
theorem ps_bad{t:List UInt8}{i m:Nat}(hi:i<Q t)(h:((Y t i 0).toNat:Int)<48\/57<((Y t i 0).toNat:Int)):posS t m=none:=by unfold posS;rw[if_neg];rintro⟨E,_⟩;have⟨_,_,O,_⟩:=im.1 E;have:=pB.1 (a0r.1 O (Y t i 0) (a0w (aT hi)));omega
theorem ps_ok{t:List UInt8}{m:Nat}(E:1<=Q t)(O:Q t<=19)(T:t.all fM=true)(U:Y t 0 0=48->Q t=1):posS t m=if val t<=m then some (val t) else none:=by unfold posS;have:lB t=true:=im.2 ⟨E,O,T,U⟩;simp only[this,true_and]
theorem wr1{m:Nat}(h:m<=9223372036854775808):IntKind.i64.wrap (IntKind.u64.wrap (0-(m:Int)))= -(m:Int):=by rw[l9,IntKind.wrap_i64];omega
theorem wr2{m:Nat}(h:m<=9223372036854775807):IntKind.i64.wrap (m:Int)=(m:Int):=lA ⟨M,M⟩
theorem sgn_of{n:Nat}(h:0<n):sgn (some n)=some (-(n:Int)):=by
 cases n with
 |zero=>omega
 |succ n=>rfl
theorem pb1{s:List UInt8}{q:Prop}(h:0<(Q s:Int)/\((Y s 0 0).toNat:Int)=45)(c:((Q (s.drop 1):Int)<1\/19<(Q (s.drop 1):Int))\/((Y (s.drop 1) 0 0).toNat:Int)=48/\q):bu s=none:=by
 rw[parse_b h];rcases c with c|⟨c,_⟩
 ·rw[ps_len M];rfl
 rw[ps_zero (c48.1 c)];split<;>rfl
theorem pp1{s:List UInt8}(h:0<(Q s:Int)->((Y s 0 0).toNat:Int)≠45)(c:((Q s:Int)<1\/19<(Q s:Int))\/((Y s 0 0).toNat:Int)=48/\(1<(Q s:Int)\/0<(Q s:Int)/\((Y s 0 0).toNat:Int)=45)):bu s=none:=by
 rw[parse_p h];rcases c with c|⟨c,c'⟩
 ·rw[ps_len M];rfl
 rw[ps_zero (c48.1 c),if_neg (by rcases c' with c'|⟨c1,c2⟩;omega;exact absurd c2 (h c1))];rfl
theorem pb2{s:List UInt8}{i:Nat}(h:0<(Q s:Int)/\((Y s 0 0).toNat:Int)=45)(hi:(i:Int)<(Q (s.drop 1):Int))(c:((Y (s.drop 1) i 0).toNat:Int)<48\/57<((Y (s.drop 1) i 0).toNat:Int)):bu s=none:=by rw[parse_b h,ps_bad (i:=i) M c];rfl
theorem pp2{s:List UInt8}{i:Nat}(h:0<(Q s:Int)->((Y s 0 0).toNat:Int)≠45)(hi:(i:Int)<(Q s:Int))(c:((Y s i 0).toNat:Int)<48\/57<((Y s i 0).toNat:Int)):bu s=none:=by rw[parse_p h,ps_bad (i:=i) M c];rfl
theorem fin_len{t:List UInt8}{i m:Nat}(T:i<=Q t)(c: ¬(i:Int)<(Q t:Int))(E:m=val (t.take i))(O:(t.take i).all fM=true):m=val t/\t.all fM=true:=by have:t.take i=t:=a0s M;rw[this]at E O;exact⟨E,O⟩
theorem pb3{s:List UInt8}{i m:Nat}{q:Prop}(h:0<(Q s:Int)/\((Y s 0 0).toNat:Int)=45)(c:(¬(Q (s.drop 1):Int)<1/\¬19<(Q (s.drop 1):Int))/\(((Y (s.drop 1) 0 0).toNat:Int)=48->¬1<(Q (s.drop 1):Int)/\q))(hq: ¬q)
  (U:i<=Q (s.drop 1)) (ci: ¬(i:Int)<(Q (s.drop 1):Int)) (Z:m=val ((s.drop 1).take i)) (h3:((s.drop 1).take i).all fM=true):bu s=if m<=9223372036854775808 then some (-(m:Int)) else none:=by
 have⟨O,T⟩:=fin_len U ci Z h3
 have E:Y (s.drop 1) 0 0≠48:=λe=>hq (c.2 (c48.2 e)).2
 rw[parse_b h,ps_ok M M T (λe=>absurd e E),←O]
 split
 ·rw[sgn_of];rw[O];have hl:1<=Q (s.drop 1):=M
  generalize s.drop 1=t at *
  cases t with
  |nil=>simp at hl
  |cons a l=>
   have ha:a≠48:=E
   have hd:=pB.1 (a0r.1 T a m_)
   have a1:a.toNat≠48:=λe=>ha (UInt8.toNat_inj.1 e)
   have key: ∀(l:List UInt8) (n:Nat),0<n->0<l.foldl valA n:=by
    intro l;induction l with
    |nil=>intro n hn;exact hn
    |cons b l ih=>intro n hn;exact ih _ (by unfold valA;omega)
   exact key l _ (by unfold valA;omega)
 rfl
theorem pp3{s:List UInt8}{i m:Nat}{q:Prop}(h:0<(Q s:Int)->((Y s 0 0).toNat:Int)≠45)(c:(¬(Q s:Int)<1/\¬19<(Q s:Int))/\(((Y s 0 0).toNat:Int)=48->¬1<(Q s:Int)/\q))
  (T:i<=Q s) (ci: ¬(i:Int)<(Q s:Int)) (U:m=val (s.take i)) (Z:(s.take i).all fM=true):bu s=if m<=9223372036854775807 then some (m:Int) else none:=by
 have⟨E,O⟩:=fin_len T ci U Z
 rw[parse_p h,ps_ok M M O (λe=>by have:=(c.2 (c48.2 e)).1;omega),←E]
 split<;>rfl
theorem parse_c(s:List UInt8)(H:Heap):kKt ex 80 [(tX s)] H λv H'=> ∃(r:Int) (ok:Bool),H'=H/\v= .tuple ⟨[iI r,.bool ok]⟩/\r=(bu s).getD 0/\ok=(bu s).isSome:=by
 refine ay Tryz.func80 V V (aO (ab (za (.int _ 0) (za (.bool false) (aB (av (aO (ab (zm _ (za (tX s) (aB (av (aO (dq 10 17 [5] [(5,((decide ((0:Int)<(s.length:Int)))&&(((s.getD 0 0).toNat:Int)==45)))] (λH'=>H'=H) ?_ ?_))))))))))))))
 ·refine ab (zm _ (ad (gu V V) V V (ad (bK V V V V) V V (zm (.bool (decide ((0:Int)<(s.length:Int)))) (fg V V (λg2=>?_) (λg2=>?_))))))
  ·have b7:=g2;try simp only[BS]at b7
   refine zm (tX s) (aC V g2 ?_);have d1:=gA (s.getD 0 0);refine ad (v:=(.int .u8 ((s.getD 0 0).toNat:Int))) (gv V V V e_ (aT M)) V V (aC V g2 (ad (bK V V V V) V V (ad (v:=(.bool (((s.getD 0 0).toNat:Int)==45))) (aq V g2 V) V V (za (.bool (((s.getD 0 0).toNat:Int)==45)) (aB ?_)))));exact ao ⟨V,V,(by repeat' first|exact Lr|refine Lu V ?_),(agC (congrArg _ (show(((s.getD 0 0).toNat:Int)==45)=((decide ((0:Int)<(s.length:Int)))&&(((s.getD 0 0).toNat:Int)==45)) by simp only[↓g2,BT])) agN)⟩
  have b7:=g2;try simp only[BS]at b7
  refine aK V g2 V (aK V g2 V (ad (v:=(.bool false)) (aH V g2 V) V V (za (.bool false) (aB ?_))));exact ao ⟨V,V,(by repeat' first|exact Lr|refine Lu V ?_),(agC (congrArg _ (show false=((decide ((0:Int)<(s.length:Int)))&&(((s.getD 0 0).toNat:Int)==45)) by simp only[↓g2,BT])) agN)⟩
 skip;rintro g1 H rfl;refine av (aO (aO (ab (zm _ (aB (av (ed V V (λaA=>?_) (λaA=>?_))))))))
 ·have c4:=aA;try simp only[BS]at c4
  have pb:=c4;refine ab (zm _ (ad (v:=(tX (s.drop 1))) (ap_slSd V V (optN e_) M) V V (za (tX (s.drop 1)) (aB (av (aO (aO (dq 21 41 [] [(41,(((decide (((s.drop 1).length:Int)<1))||(decide ((19:Int)<((s.drop 1).length:Int))))||(((((s.drop 1).getD 0 0).toNat:Int)==48)&&((decide ((1:Int)<((s.drop 1).length:Int)))||((decide ((0:Int)<(s.length:Int)))&&(((s.getD 0 0).toNat:Int)==45))))))] (λH'=>H'=H) ?_ ?_))))))))
  ·refine ab (zm _ (ad (gu V V) V V (ad (bK V V V V) V V (zm (.bool (decide (((s.drop 1).length:Int)<1))) (bM V V (λg6=>?_) (λg6=>?_))))))
   ·have b8:=g6;try simp only[BS]at b8
    refine zm _ (aC V g6 (ad (gu V V) V V (aC V g6 (ad (bK V V V V) V V (ad (v:=(.bool (decide ((19:Int)<((s.drop 1).length:Int))))) (aH V g6 V) V V (zm (.bool (decide ((19:Int)<((s.drop 1).length:Int)))) (bM V V (λU=>?_) (λU=>?_))))))))
    ·have b9:=U;try simp only[BS]at b9
     refine zm (tX (s.drop 1)) (aC V U ?_);have d2:=gA ((s.drop 1).getD 0 0);refine ad (v:=(.int .u8 (((s.drop 1).getD 0 0).toNat:Int))) (gv V V V e_ (aT M)) V V (aC V U (ad (bK V V V V) V V (aC V U (zm (.bool ((((s.drop 1).getD 0 0).toNat:Int)==48)) (fg V V (λg9=>?_) (λg9=>?_))))))
     ·have ch:=g9;try simp only[BS]at ch
      refine zm _ (aC V g9 (ad (gu V V) V V (aC V g9 (ad (bK V V V V) V V (aC V g9 (zm (.bool (decide ((1:Int)<((s.drop 1).length:Int)))) (bM V V (λa1=>?_) (λa1=>?_))))))))
      ·have bl:=a1;try simp only[BS]at bl
       refine zm _ (aC V g9 (ad (v:=(.bool ((decide ((0:Int)<(s.length:Int)))&&(((s.getD 0 0).toNat:Int)==45)))) (aH V a1 V) V V (aC V U (ad (v:=(.bool ((decide ((0:Int)<(s.length:Int)))&&(((s.getD 0 0).toNat:Int)==45)))) (aq V g9 V) V V (ad (v:=(.bool ((decide ((0:Int)<(s.length:Int)))&&(((s.getD 0 0).toNat:Int)==45)))) (aH V U V) V V (aB ?_))))));exact ao ⟨V,V,(by repeat' first|exact Lr|refine Lu V ?_),(agC (congrArg _ (show((decide ((0:Int)<(s.length:Int)))&&(((s.getD 0 0).toNat:Int)==45))=(((decide (((s.drop 1).length:Int)<1))||(decide ((19:Int)<((s.drop 1).length:Int))))||(((((s.drop 1).getD 0 0).toNat:Int)==48)&&((decide ((1:Int)<((s.drop 1).length:Int)))||((decide ((0:Int)<(s.length:Int)))&&(((s.getD 0 0).toNat:Int)==45))))) by simp only[↓g6,↓U,↓g9,↓a1,BT])) agN)⟩
      have bl:=a1;try simp only[BS]at bl
      refine aC V g9 (ad (v:=(.bool true)) (aq V a1 V) V V (aC V U (ad (v:=(.bool true)) (aq V g9 V) V V (ad (v:=(.bool true)) (aH V U V) V V (aB ?_)))));exact ao ⟨V,V,(by repeat' first|exact Lr|refine Lu V ?_),(agC (congrArg _ (show true=(((decide (((s.drop 1).length:Int)<1))||(decide ((19:Int)<((s.drop 1).length:Int))))||(((((s.drop 1).getD 0 0).toNat:Int)==48)&&((decide ((1:Int)<((s.drop 1).length:Int)))||((decide ((0:Int)<(s.length:Int)))&&(((s.getD 0 0).toNat:Int)==45))))) by simp only[↓g6,↓U,↓g9,↓a1,BT])) agN)⟩
     have ch:=g9;try simp only[BS]at ch
     refine aK V g9 V (aK V g9 V (aK V g9 V (dH V V (aK V g9 V (aC V U (ad (v:=(.bool false)) (aH V g9 V) V V (ad (v:=(.bool false)) (aH V U V) V V (aB ?_))))))));exact ao ⟨V,V,(by repeat' first|exact Lr|refine Lu V ?_),(agC (congrArg _ (show false=(((decide (((s.drop 1).length:Int)<1))||(decide ((19:Int)<((s.drop 1).length:Int))))||(((((s.drop 1).getD 0 0).toNat:Int)==48)&&((decide ((1:Int)<((s.drop 1).length:Int)))||((decide ((0:Int)<(s.length:Int)))&&(((s.getD 0 0).toNat:Int)==45))))) by simp only[↓g6,↓U,↓g9,BT])) agN)⟩
    have b9:=U;try simp only[BS]at b9
    refine ae V U V (ae V U V (ae V U V (dH V V (dH V V (dH V V (dH V V (dH V V (dH V V (ae V U V (ad (v:=(.bool true)) (aq V U V) V V (aB ?_)))))))))));exact ao ⟨V,V,(by repeat' first|exact Lr|refine Lu V ?_),(agC (congrArg _ (show true=(((decide (((s.drop 1).length:Int)<1))||(decide ((19:Int)<((s.drop 1).length:Int))))||(((((s.drop 1).getD 0 0).toNat:Int)==48)&&((decide ((1:Int)<((s.drop 1).length:Int)))||((decide ((0:Int)<(s.length:Int)))&&(((s.getD 0 0).toNat:Int)==45))))) by simp only[↓g6,↓U,BT])) agN)⟩
   have b8:=g6;try simp only[BS]at b8
   refine ae V g6 V (ae V g6 V (ad (v:=(.bool true)) (aq V g6 V) V V (zm _ (ae V V V (ae V V V (ae V V V (ae V V V (dH V V (dH V V (dH V V (dH V V (dH V V (dH V V (ae V V V (ad (v:=(.bool true)) (aq V V V) V V (aB ?_))))))))))))))));exact ao ⟨V,V,(by repeat' first|exact Lr|refine Lu V ?_),(agC (congrArg _ (show true=(((decide (((s.drop 1).length:Int)<1))||(decide ((19:Int)<((s.drop 1).length:Int))))||(((((s.drop 1).getD 0 0).toNat:Int)==48)&&((decide ((1:Int)<((s.drop 1).length:Int)))||((decide ((0:Int)<(s.length:Int)))&&(((s.getD 0 0).toNat:Int)==45))))) by simp only[↓g6,BT])) agN)⟩
  skip;rintro g5 H rfl;refine av (ed V V (λa7=>?_) (λa7=>?_))
  ·try simp only[BS]at a7
   have pc:=a7;refine aO (ab (za _ (za _ (aB (av (ag ⟨.inr V,_,V,0,_,V,V,(by have e:=pb1 pb pc;rw[e];(try rfl)),(by have e:=pb1 pb pc;rw[e];(try rfl))⟩))))))
  try simp only[BS]at a7
  have pc:=a7;refine av (aO (ab (za _ (aB (av (aO (aO (ab (za _ (aB (av (gJ (ak (λ(mm:Nat) f H'=> ∃(i:Nat) (m:Nat),H'=H/\aI f [(4,(tX (s.drop 1))),(5,((decide ((0:Int)<(s.length:Int)))&&(((s.getD 0 0).toNat:Int)==45))),(6,(.int _ (m:Int))),(7,(.int _ (i:Int)))]/\mm=(s.drop 1).length-i/\(i<=(s.drop 1).length)/\(m=val ((s.drop 1).take i))/\(((s.drop 1).take i).all fM=true)/\(m<10^i)/\((s.drop 1).length<=19)) _ ⟨0,0,V,⟨V,V,V,V,trivial⟩,V,M,k_,k_,e_,M⟩ ?_)))))))))))));rintro dn d3 H ⟨i,m,rfl,b5,rfl,h1,h2,h3,h4,h5⟩ ci;refine aw _ b5 (λ_=>?_);clear b5;refine aO (aO (ab (zm _ (zm _ (ad (gu V V) V V (ad (bK V V V V) V V (aB (av (ed V V (λa8=>?_) (λa8=>?_))))))))))
  ·try simp only[BS]at a8
   have hp:=pow_le (show i<=18 by omega);have pi:=a8;refine av (aO (gJ (aO (aO (dq 48 57 [] [(57,((decide ((((s.drop 1).getD i 0).toNat:Int)<48))||(decide ((57:Int)<(((s.drop 1).getD i 0).toNat:Int)))))] (λH'=>H'=H) ?_ ?_)))))
   ·refine ab (zm (tX (s.drop 1)) (zm (.int _ _) ?_));have cL:=gA ((s.drop 1).getD i 0);refine ad (v:=(.int .u8 (((s.drop 1).getD i 0).toNat:Int))) (gv V V V M (aT M)) V V (ad (bK V V V V) V V (zm (.bool (decide ((((s.drop 1).getD i 0).toNat:Int)<48))) (bM V V (λZ=>?_) (λZ=>?_))))
    ·have bn:=Z;try simp only[BS]at bn
     refine zm (tX (s.drop 1)) (aC V Z (zm (.int _ _) (aC V Z ?_)));have c0:=gA ((s.drop 1).getD i 0);refine ad (v:=(.int .u8 (((s.drop 1).getD i 0).toNat:Int))) (gv V V V M (aT M)) V V (aC V Z (ad (bK V V V V) V V (ad (v:=(.bool (decide ((57:Int)<(((s.drop 1).getD i 0).toNat:Int))))) (aH V Z V) V V (aB ?_))));exact ao ⟨V,V,(by repeat' first|exact Lr|refine Lu V ?_),(agC (congrArg _ (show(decide ((57:Int)<(((s.drop 1).getD i 0).toNat:Int)))=((decide ((((s.drop 1).getD i 0).toNat:Int)<48))||(decide ((57:Int)<(((s.drop 1).getD i 0).toNat:Int)))) by simp only[↓Z,BT])) agN)⟩
    have bn:=Z;try simp only[BS]at bn
    refine ae V Z V (ae V Z V (ae V Z V (ad (v:=(.bool true)) (aq V Z V) V V (aB ?_))));exact ao ⟨V,V,(by repeat' first|exact Lr|refine Lu V ?_),(agC (congrArg _ (show true=((decide ((((s.drop 1).getD i 0).toNat:Int)<48))||(decide ((57:Int)<(((s.drop 1).getD i 0).toNat:Int)))) by simp only[↓Z,BT])) agN)⟩
   skip;rintro d5 H rfl;refine av (ed V V (λb2=>?_) (λb2=>?_))
   ·try simp only[BS]at b2
    have pd:=b2;refine aO (ab (za _ (za _ (aB (av (ag ⟨.inr V,_,V,0,_,V,V,(by have e:=pb2 pb pi pd;rw[e];(try rfl)),(by have e:=pb2 pb pi pd;rw[e];(try rfl))⟩))))))
   try simp only[BS]at b2
   refine av (ab (zm _ (ad (ap_mul V V (oy (n:=10 *(m:Int)) M)) V V (zm (tX (s.drop 1)) (zm (.int _ _) ?_)))));have c3:=gA ((s.drop 1).getD i 0);refine ad (v:=(.int .u8 (((s.drop 1).getD i 0).toNat:Int))) (gv V V V M (aT M)) V V (ad (ap_sub V V (natsub (b:=48) M (w_u8 M))) V V (ad (ap_cv V V V (oy M)) V V (ad (iC V V (oy M)) V V (za (.int _ _) (aB (fp (av (ab (zm _ (ad (iC V V (lA (n:=(i:Int)+1) M)) V V (za (.int _ _) (aB (av ?_)))))))))))));refine ci _ _ _ ?_ ⟨i+1,(10 *m)+(((s.drop 1).getD i 0).toNat-48),V,⟨V,V,V,V,trivial⟩,V,M,(by(rw[oz M,h2])),(by(rw[kg M,h3,a1b,pB];omega)),(by(rw[a1U];omega)),X⟩;omega
  try simp only[BS]at a8
  have pi:=a8;refine fD (fD (gI (av (aO (ab (za _ (aB (av (aO (aO (ab (zm _ (aB (av (wk_true V aA V (ab (zm _ (ad (v:=(.int _ 9223372036854775808)) (iC V V V) V V (za _ (aB (av (aO (aO (ab (zm _ (zm _ (ad (bK V V V V) V V (aB (av (ed V V (λa9=>?_) (λa9=>?_)))))))))))))))))))))))))))))))
  ·try simp only[BS]at a9
   have pm:=a9;refine aO (ab (za _ (za _ (aB (av (ag ⟨.inr V,_,V,0,false,V,V,(by have e:=pb3 pb pc (λh=>h pb.1 pb.2) h1 pi h2 h3;rw[e];(try rfl);split<;>first|rfl|(exfalso;omega)|exact wr1 M|exact wr2 M),(by have e:=pb3 pb pc (λh=>h pb.1 pb.2) h1 pi h2 h3;rw[e];(try rfl);split<;>first|rfl|(exfalso;omega)|exact wr1 M|exact wr2 M)⟩))))))
  try simp only[BS]at a9
  have pm:=a9;refine av (aO (aO (ab (zm _ (aB (av (wk_true V aA V (aO (ab (zm _ (ad (ap_ng V V) V V (ad (ap_cv V V V V) V V (za _ (za _ (aB (av (ag ⟨.inr V,_,V,IntKind.i64.wrap (IntKind.u64.wrap (0-(m:Int))),true,V,V,(by have e:=pb3 pb pc (λh=>h pb.1 pb.2) h1 pi h2 h3;rw[e];(try rfl);split<;>first|rfl|(exfalso;omega)|exact wr1 M|exact wr2 M),(by have e:=pb3 pb pc (λh=>h pb.1 pb.2) h1 pi h2 h3;rw[e];(try rfl);split<;>first|rfl|(exfalso;omega)|exact wr1 M|exact wr2 M)⟩)))))))))))))))))
 have c4:=aA;try simp only[BS]at c4
 have pb:=c4;refine av (aO (aO (dq 21 41 [] [(41,(((decide ((s.length:Int)<1))||(decide ((19:Int)<(s.length:Int))))||((((s.getD 0 0).toNat:Int)==48)&&((decide ((1:Int)<(s.length:Int)))||((decide ((0:Int)<(s.length:Int)))&&(((s.getD 0 0).toNat:Int)==45))))))] (λH'=>H'=H) ?_ ?_)))
 ·refine ab (zm _ (ad (gu V V) V V (ad (bK V V V V) V V (zm (.bool (decide ((s.length:Int)<1))) (bM V V (λT=>?_) (λT=>?_))))))
  ·have bt:=T;try simp only[BS]at bt
   refine zm _ (aC V T (ad (gu V V) V V (aC V T (ad (bK V V V V) V V (ad (v:=(.bool (decide ((19:Int)<(s.length:Int))))) (aH V T V) V V (zm (.bool (decide ((19:Int)<(s.length:Int)))) (bM V V (λE=>?_) (λE=>?_))))))))
   ·have bw:=E;try simp only[BS]at bw
    refine zm (tX s) (aC V E ?_);have c5:=gA (s.getD 0 0);refine ad (v:=(.int .u8 ((s.getD 0 0).toNat:Int))) (gv V V V e_ (aT M)) V V (aC V E (ad (bK V V V V) V V (aC V E (zm (.bool (((s.getD 0 0).toNat:Int)==48)) (fg V V (λO=>?_) (λO=>?_))))))
    ·have bF:=O;try simp only[BS]at bF
     refine zm _ (aC V O (ad (gu V V) V V (aC V O (ad (bK V V V V) V V (aC V O (zm (.bool (decide ((1:Int)<(s.length:Int)))) (bM V V (λa3=>?_) (λa3=>?_))))))))
     ·have b0:=a3;try simp only[BS]at b0
      refine zm _ (aC V O (ad (v:=(.bool ((decide ((0:Int)<(s.length:Int)))&&(((s.getD 0 0).toNat:Int)==45)))) (aH V a3 V) V V (aC V E (ad (v:=(.bool ((decide ((0:Int)<(s.length:Int)))&&(((s.getD 0 0).toNat:Int)==45)))) (aq V O V) V V (ad (v:=(.bool ((decide ((0:Int)<(s.length:Int)))&&(((s.getD 0 0).toNat:Int)==45)))) (aH V E V) V V (aB ?_))))));exact ao ⟨V,V,(by repeat' first|exact Lr|refine Lu V ?_),(agC (congrArg _ (show((decide ((0:Int)<(s.length:Int)))&&(((s.getD 0 0).toNat:Int)==45))=(((decide ((s.length:Int)<1))||(decide ((19:Int)<(s.length:Int))))||((((s.getD 0 0).toNat:Int)==48)&&((decide ((1:Int)<(s.length:Int)))||((decide ((0:Int)<(s.length:Int)))&&(((s.getD 0 0).toNat:Int)==45))))) by simp only[↓T,↓E,↓O,↓a3,BT])) agN)⟩
     have b0:=a3;try simp only[BS]at b0
     refine aC V O (ad (v:=(.bool true)) (aq V a3 V) V V (aC V E (ad (v:=(.bool true)) (aq V O V) V V (ad (v:=(.bool true)) (aH V E V) V V (aB ?_)))));exact ao ⟨V,V,(by repeat' first|exact Lr|refine Lu V ?_),(agC (congrArg _ (show true=(((decide ((s.length:Int)<1))||(decide ((19:Int)<(s.length:Int))))||((((s.getD 0 0).toNat:Int)==48)&&((decide ((1:Int)<(s.length:Int)))||((decide ((0:Int)<(s.length:Int)))&&(((s.getD 0 0).toNat:Int)==45))))) by simp only[↓T,↓E,↓O,↓a3,BT])) agN)⟩
    have bF:=O;try simp only[BS]at bF
    refine aK V O V (aK V O V (aK V O V (dH V V (aK V O V (aC V E (ad (v:=(.bool false)) (aH V O V) V V (ad (v:=(.bool false)) (aH V E V) V V (aB ?_))))))));exact ao ⟨V,V,(by repeat' first|exact Lr|refine Lu V ?_),(agC (congrArg _ (show false=(((decide ((s.length:Int)<1))||(decide ((19:Int)<(s.length:Int))))||((((s.getD 0 0).toNat:Int)==48)&&((decide ((1:Int)<(s.length:Int)))||((decide ((0:Int)<(s.length:Int)))&&(((s.getD 0 0).toNat:Int)==45))))) by simp only[↓T,↓E,↓O,BT])) agN)⟩
   have bw:=E;try simp only[BS]at bw
   refine ae V E V (ae V E V (ae V E V (dH V V (dH V V (dH V V (dH V V (dH V V (dH V V (ae V E V (ad (v:=(.bool true)) (aq V E V) V V (aB ?_)))))))))));exact ao ⟨V,V,(by repeat' first|exact Lr|refine Lu V ?_),(agC (congrArg _ (show true=(((decide ((s.length:Int)<1))||(decide ((19:Int)<(s.length:Int))))||((((s.getD 0 0).toNat:Int)==48)&&((decide ((1:Int)<(s.length:Int)))||((decide ((0:Int)<(s.length:Int)))&&(((s.getD 0 0).toNat:Int)==45))))) by simp only[↓T,↓E,BT])) agN)⟩
  have bt:=T;try simp only[BS]at bt
  refine ae V T V (ae V T V (ad (v:=(.bool true)) (aq V T V) V V (zm _ (ae V V V (ae V V V (ae V V V (ae V V V (dH V V (dH V V (dH V V (dH V V (dH V V (dH V V (ae V V V (ad (v:=(.bool true)) (aq V V V) V V (aB ?_))))))))))))))));exact ao ⟨V,V,(by repeat' first|exact Lr|refine Lu V ?_),(agC (congrArg _ (show true=(((decide ((s.length:Int)<1))||(decide ((19:Int)<(s.length:Int))))||((((s.getD 0 0).toNat:Int)==48)&&((decide ((1:Int)<(s.length:Int)))||((decide ((0:Int)<(s.length:Int)))&&(((s.getD 0 0).toNat:Int)==45))))) by simp only[↓T,BT])) agN)⟩
 skip;rintro d6 H rfl;refine av (ed V V (λba=>?_) (λba=>?_))
 ·try simp only[BS]at ba
  have pc:=ba;refine aO (ab (za _ (za _ (aB (av (ag ⟨.inr V,_,V,0,_,V,V,(by have e:=pp1 pb pc;rw[e];(try rfl)),(by have e:=pp1 pb pc;rw[e];(try rfl))⟩))))))
 try simp only[BS]at ba
 have pc:=ba;refine av (aO (ab (za _ (aB (av (aO (aO (ab (za _ (aB (av (gJ (ak (λ(mm:Nat) f H'=> ∃(i:Nat) (m:Nat),H'=H/\aI f [(4,(tX s)),(5,((decide ((0:Int)<(s.length:Int)))&&(((s.getD 0 0).toNat:Int)==45))),(6,(.int _ (m:Int))),(7,(.int _ (i:Int)))]/\mm=s.length-i/\(i<=s.length)/\(m=val (s.take i))/\((s.take i).all fM=true)/\(m<10^i)/\(s.length<=19)) _ ⟨0,0,V,⟨V,V,V,V,trivial⟩,V,M,k_,k_,e_,M⟩ ?_)))))))))))));rintro dt d4 H ⟨i,m,rfl,b6,rfl,h1,h2,h3,h4,h5⟩ co;refine aw _ b6 (λ_=>?_);clear b6;refine aO (aO (ab (zm _ (zm _ (ad (gu V V) V V (ad (bK V V V V) V V (aB (av (ed V V (λbb=>?_) (λbb=>?_))))))))))
 ·try simp only[BS]at bb
  have hp:=pow_le (show i<=18 by omega);have pi:=bb;refine av (aO (gJ (aO (aO (dq 48 57 [] [(57,((decide (((s.getD i 0).toNat:Int)<48))||(decide ((57:Int)<((s.getD i 0).toNat:Int)))))] (λH'=>H'=H) ?_ ?_)))))
  ·refine ab (zm (tX s) (zm (.int _ _) ?_));have c6:=gA (s.getD i 0);refine ad (v:=(.int .u8 ((s.getD i 0).toNat:Int))) (gv V V V M (aT M)) V V (ad (bK V V V V) V V (zm (.bool (decide (((s.getD i 0).toNat:Int)<48))) (bM V V (λal=>?_) (λal=>?_))))
   ·have b1:=al;try simp only[BS]at b1
    refine zm (tX s) (aC V al (zm (.int _ _) (aC V al ?_)));have c7:=gA (s.getD i 0);refine ad (v:=(.int .u8 ((s.getD i 0).toNat:Int))) (gv V V V M (aT M)) V V (aC V al (ad (bK V V V V) V V (ad (v:=(.bool (decide ((57:Int)<((s.getD i 0).toNat:Int))))) (aH V al V) V V (aB ?_))));exact ao ⟨V,V,(by repeat' first|exact Lr|refine Lu V ?_),(agC (congrArg _ (show(decide ((57:Int)<((s.getD i 0).toNat:Int)))=((decide (((s.getD i 0).toNat:Int)<48))||(decide ((57:Int)<((s.getD i 0).toNat:Int)))) by simp only[↓al,BT])) agN)⟩
   have b1:=al;try simp only[BS]at b1
   refine ae V al V (ae V al V (ae V al V (ad (v:=(.bool true)) (aq V al V) V V (aB ?_))));exact ao ⟨V,V,(by repeat' first|exact Lr|refine Lu V ?_),(agC (congrArg _ (show true=((decide (((s.getD i 0).toNat:Int)<48))||(decide ((57:Int)<((s.getD i 0).toNat:Int)))) by simp only[↓al,BT])) agN)⟩
  skip;rintro d7 H rfl;refine av (ed V V (λb3=>?_) (λb3=>?_))
  ·try simp only[BS]at b3
   have pd:=b3;refine aO (ab (za _ (za _ (aB (av (ag ⟨.inr V,_,V,0,_,V,V,(by have e:=pp2 pb pi pd;rw[e];(try rfl)),(by have e:=pp2 pb pi pd;rw[e];(try rfl))⟩))))))
  try simp only[BS]at b3
  refine av (ab (zm _ (ad (ap_mul V V (oy (n:=10 *(m:Int)) M)) V V (zm (tX s) (zm (.int _ _) ?_)))));have c8:=gA (s.getD i 0);refine ad (v:=(.int .u8 ((s.getD i 0).toNat:Int))) (gv V V V M (aT M)) V V (ad (ap_sub V V (natsub (b:=48) M (w_u8 M))) V V (ad (ap_cv V V V (oy M)) V V (ad (iC V V (oy M)) V V (za (.int _ _) (aB (fp (av (ab (zm _ (ad (iC V V (lA (n:=(i:Int)+1) M)) V V (za (.int _ _) (aB (av ?_)))))))))))));refine co _ _ _ ?_ ⟨i+1,(10 *m)+((s.getD i 0).toNat-48),V,⟨V,V,V,V,trivial⟩,V,M,(by(rw[oz M,h2])),(by(rw[kg M,h3,a1b,pB];omega)),(by(rw[a1U];omega)),X⟩;omega
 try simp only[BS]at bb
 have pi:=bb;refine fD (fD (gI (av (aO (ab (za _ (aB (av (aO (aO (ab (zm _ (aB (av (ou V aA V (av (aO (aO (ab (zm _ (zm _ (ad (bK V V V V) V V (aB (av (ed V V (λbf=>?_) (λbf=>?_))))))))))))))))))))))))))
 ·try simp only[BS]at bf
  have pm:=bf;refine aO (ab (za _ (za _ (aB (av (ag ⟨.inr V,_,V,0,false,V,V,(by have e:=pp3 pb pc h1 pi h2 h3;rw[e];(try rfl);split<;>first|rfl|(exfalso;omega)|exact wr1 M|exact wr2 M),(by have e:=pp3 pb pc h1 pi h2 h3;rw[e];(try rfl);split<;>first|rfl|(exfalso;omega)|exact wr1 M|exact wr2 M)⟩))))))
 try simp only[BS]at bf
 have pm:=bf;refine av (aO (aO (ab (zm _ (aB (av (ou V aA V (av (aO (ab (zm _ (ad (ap_cv V V V V) V V (za _ (za _ (aB (av (ag ⟨.inr V,_,V,IntKind.i64.wrap (m:Int),true,V,V,(by have e:=pp3 pb pc h1 pi h2 h3;rw[e];(try rfl);split<;>first|rfl|(exfalso;omega)|exact wr1 M|exact wr2 M),(by have e:=pp3 pb pc h1 pi h2 h3;rw[e];(try rfl);split<;>first|rfl|(exfalso;omega)|exact wr1 M|exact wr2 M)⟩)))))))))))))))))
theorem mB(s:List UInt8)(H:Heap):kKt ex 80 [(tX s)] H λv H'=>v= .tuple ⟨[iI ((bu s).getD 0),.bool (bu s).isSome]⟩/\H'=H:=cq (parse_c ex s H) (by rintro _ _ ⟨_,_,rfl,rfl,rfl,rfl⟩;exact⟨V,V⟩)
end w3
open w3
namespace pt
structure ExpT where
 j:Int
 n:Int
 pp:Str
 op:Int
 I:(List ExpT)
 deriving Inhabited
abbrev ExpT.G6(F:Fz)(S:Value->List ExpT->Prop)(cs:List Value)(x:ExpT):Prop:= ∃a4 k4,cs=[iI x.j,iI x.n,tX x.pp.b,iI x.op,sL a4 (Q x.I) k4]/\in64 x.j/\in64 x.n/\in64 x.op/\S (sL a4 (Q x.I) k4) x.I
def ExpT.lv:Nat->Lv ExpT 5
 |0=>⟨λ_ _ _=>False,λh=>h.elim,λh=>h.elim,λ_ h=>h.elim⟩
 |d+1=>⟨λF cs x=>ExpT.G6 F (@SR ExpT (ExpT.lv d).rp F) cs x,by rintro F cs x ⟨a4,k4,rfl,_⟩;rfl,by rintro F cs x ⟨a4,k4,rfl,_⟩;rfl,by
   rintro F F' cs x hF ⟨a4,k4,rfl,h0,h1,h2,h3⟩;exact⟨a4,k4,V,h0,h1,h2, @SR.ac ExpT (ExpT.lv d).rp F F' hF _ _ h3⟩⟩
theorem ExpT.up{F}: ∀d cs x,(ExpT.lv d).r F cs x->(ExpT.lv (d+1)).r F cs x
 |0,_,_,h=>h.elim
 |d+1,cs,x,⟨E,k4,e,O,T,U,Z⟩=>⟨E,k4,e,O,T,U,SR.imp (i:=(ExpT.lv d).rp) (j:=(ExpT.lv (d+1)).rp) V (λcs x=>ExpT.up d cs x) Z⟩
instance :Rp ExpT:=rpOf ExpT.lv
theorem ExpT.out{F}{cs:List Value}{x:ExpT}(h:Rp.rep F cs x):ExpT.G6 F (SR F) cs x:=by
 have⟨d,h⟩:=h;cases d with
 |zero=>exact h.elim
 |succ d=>
  have⟨E,k4,e,O,T,U,Z⟩:=h
  exact⟨E,k4,e,O,T,U,SR.imp (i:=(ExpT.lv d).rp) (j:=rpOf ExpT.lv) V (λcs x h=>⟨d,h⟩) Z⟩
theorem ExpT.mkr{F}{cs:List Value}{x:ExpT}(h:ExpT.G6 F (SR F) cs x):Rp.rep F cs x:=by have⟨E,k4,e,O,T,U,Z⟩:=h;have⟨d0,u0⟩:=SR.unif ExpT.up Z;exact⟨d0+1,E,k4,e,O,T,U,u0 d0 M⟩
theorem ExpT.vw{F}{get:Nat->Option AObj}{v:Value}{cf:Nat->List Value}{j:Nat}{l:List ExpT}(h:VW F get v l cf j)(Z:j<Q l:=by first|(dsimp only;omega)|omega):HC get (sB v) (sO v+j *Rp.sz ExpT) [iI (Y l j n_).j,iI (Y l j n_).n,tX (Y l j n_).pp.b,iI (Y l j n_).op,sL (cA (cf j) 4) (Q (Y l j n_).I) (cK (cf j) 4)]:=by have⟨E,O⟩:=h.1 n_ Z;have⟨T,U,E,_⟩:=ExpT.out E;rw[show cf j=_ from E]at O⊢;exact O
theorem ExpT.fx{F}{get:Nat->Option AObj}{v:Value}{cf:Nat->List Value}{j}{l:List ExpT}(h:VW F get v l cf j):in64 (Y l j n_).j/\in64 (Y l j n_).n/\in64 (Y l j n_).op/\SR F (sL (cA (cf j) 4) (Q (Y l j n_).I) (cK (cf j) 4)) (Y l j n_).I:=by
 rcases a0p j (Q l) with hj|hj
 ·have⟨E,_⟩:=h.1 n_ hj;have⟨a4,k4,O,T,E,U,Z⟩:=ExpT.out E;rw[show cf j=_ from O];exact⟨T,E,U,Z⟩
 rw[bW hj,h.2 hj];exact⟨by decide,by decide,by decide,SR.nil⟩
structure StmT where
 j:Int
 pp:Str
 K:Str
 n:Int
 G2:ExpT
 val:ExpT
 y:(List ExpT)
 G4:(List StmT)
 G7:(List StmT)
 deriving Inhabited
abbrev StmT.G6(F:Fz)(S:Value->List StmT->Prop)(cs:List Value)(x:StmT):Prop:= ∃a8 k8 a13 k13 a14 k14 a15 k15 a16 k16,cs=[iI x.j,tX x.pp.b,tX x.K.b,iI x.n,iI x.G2.j,iI x.G2.n,tX x.G2.pp.b,iI x.G2.op,sL a8 (Q x.G2.I) k8,iI x.val.j,iI x.val.n,tX x.val.pp.b,iI x.val.op,sL a13 (Q x.val.I) k13,sL a14 (Q x.y) k14,sL a15 (Q x.G4) k15,sL a16 (Q x.G7) k16]/\in64 x.j/\in64 x.n/\in64 x.G2.j/\in64 x.G2.n/\in64 x.G2.op/\in64 x.val.j/\in64 x.val.n/\in64 x.val.op/\SR F (sL a8 (Q x.G2.I) k8) x.G2.I/\SR F (sL a13 (Q x.val.I) k13) x.val.I/\SR F (sL a14 (Q x.y) k14) x.y/\S (sL a15 (Q x.G4) k15) x.G4/\S (sL a16 (Q x.G7) k16) x.G7
def StmT.lv:Nat->Lv StmT 17
 |0=>⟨λ_ _ _=>False,λh=>h.elim,λh=>h.elim,λ_ h=>h.elim⟩
 |d+1=>⟨λF cs x=>StmT.G6 F (@SR StmT (StmT.lv d).rp F) cs x,by rintro F cs x ⟨a8,k8,a13,k13,a14,k14,a15,k15,a16,k16,rfl,_⟩;rfl,by rintro F cs x ⟨a8,k8,a13,k13,a14,k14,a15,k15,a16,k16,rfl,_⟩;rfl,by
   rintro F F' cs x hF ⟨a8,k8,a13,k13,a14,k14,a15,k15,a16,k16,rfl,h0,h1,h2,h3,h4,h5,h6,h7,h8,h9,h10,h11,h12⟩;exact⟨a8,k8,a13,k13,a14,k14,a15,k15,a16,k16,V,h0,h1,h2,h3,h4,h5,h6,h7,h8.ac hF,h9.ac hF,h10.ac hF, @SR.ac StmT (StmT.lv d).rp F F' hF _ _ h11, @SR.ac StmT (StmT.lv d).rp F F' hF _ _ h12⟩⟩
theorem StmT.up{F}: ∀d cs x,(StmT.lv d).r F cs x->(StmT.lv (d+1)).r F cs x
 |0,_,_,h=>h.elim
 |d+1,cs,x,⟨a8,k8,E,ax,O,aA,T,a1,U,a2,e,h0,h1,h2,h3,h4,h5,h6,h7,h8,h9,Z,al,an⟩=>⟨a8,k8,E,ax,O,aA,T,a1,U,a2,e,h0,h1,h2,h3,h4,h5,h6,h7,h8,h9,Z,SR.imp (i:=(StmT.lv d).rp) (j:=(StmT.lv (d+1)).rp) V (λcs x=>StmT.up d cs x) al,SR.imp (i:=(StmT.lv d).rp) (j:=(StmT.lv (d+1)).rp) V (λcs x=>StmT.up d cs x) an⟩
instance :Rp StmT:=rpOf StmT.lv
theorem StmT.out{F}{cs:List Value}{x:StmT}(h:Rp.rep F cs x):StmT.G6 F (SR F) cs x:=by
 have⟨d,h⟩:=h;cases d with
 |zero=>exact h.elim
 |succ d=>
  have⟨a8,k8,E,ax,O,aA,T,a1,U,a2,e,h0,h1,h2,h3,h4,h5,h6,h7,h8,h9,Z,al,an⟩:=h
  exact⟨a8,k8,E,ax,O,aA,T,a1,U,a2,e,h0,h1,h2,h3,h4,h5,h6,h7,h8,h9,Z,SR.imp (i:=(StmT.lv d).rp) (j:=rpOf StmT.lv) V (λcs x h=>⟨d,h⟩) al,SR.imp (i:=(StmT.lv d).rp) (j:=rpOf StmT.lv) V (λcs x h=>⟨d,h⟩) an⟩
theorem StmT.mkr{F}{cs:List Value}{x:StmT}(h:StmT.G6 F (SR F) cs x):Rp.rep F cs x:=by have⟨a8,k8,O,aA,T,a1,U,a2,Z,a3,e,h0,h1,h2,h3,h4,h5,h6,h7,h8,h9,al,an,ax⟩:=h;have⟨d0,u0⟩:=SR.unif StmT.up an;have⟨E,u1⟩:=SR.unif StmT.up ax;exact⟨(max d0 E)+1,a8,k8,O,aA,T,a1,U,a2,Z,a3,e,h0,h1,h2,h3,h4,h5,h6,h7,h8,h9,al,u0 (max d0 E) M,u1 (max d0 E) M⟩
theorem StmT.vw{F}{get:Nat->Option AObj}{v:Value}{cf:Nat->List Value}{j:Nat}{l:List StmT}(h:VW F get v l cf j)(hj:j<Q l:=by first|(dsimp only;omega)|omega):HC get (sB v) (sO v+j *Rp.sz StmT) [iI (Y l j n_).j,tX (Y l j n_).pp.b,tX (Y l j n_).K.b,iI (Y l j n_).n,iI (Y l j n_).G2.j,iI (Y l j n_).G2.n,tX (Y l j n_).G2.pp.b,iI (Y l j n_).G2.op,sL (cA (cf j) 8) (Q (Y l j n_).G2.I) (cK (cf j) 8),iI (Y l j n_).val.j,iI (Y l j n_).val.n,tX (Y l j n_).val.pp.b,iI (Y l j n_).val.op,sL (cA (cf j) 13) (Q (Y l j n_).val.I) (cK (cf j) 13),sL (cA (cf j) 14) (Q (Y l j n_).y) (cK (cf j) 14),sL (cA (cf j) 15) (Q (Y l j n_).G4) (cK (cf j) 15),sL (cA (cf j) 16) (Q (Y l j n_).G7) (cK (cf j) 16)]:=by have⟨E,O⟩:=h.1 n_ hj;have⟨a8,k8,T,an,U,ax,Z,aA,al,a1,E,_⟩:=StmT.out E;rw[show cf j=_ from E]at O⊢;exact O
theorem StmT.fx{F}{get:Nat->Option AObj}{v:Value}{cf:Nat->List Value}{j}{l:List StmT}(h:VW F get v l cf j):in64 (Y l j n_).j/\in64 (Y l j n_).n/\in64 (Y l j n_).G2.j/\in64 (Y l j n_).G2.n/\in64 (Y l j n_).G2.op/\in64 (Y l j n_).val.j/\in64 (Y l j n_).val.n/\in64 (Y l j n_).val.op/\SR F (sL (cA (cf j) 8) (Q (Y l j n_).G2.I) (cK (cf j) 8)) (Y l j n_).G2.I/\SR F (sL (cA (cf j) 13) (Q (Y l j n_).val.I) (cK (cf j) 13)) (Y l j n_).val.I/\SR F (sL (cA (cf j) 14) (Q (Y l j n_).y) (cK (cf j) 14)) (Y l j n_).y/\SR F (sL (cA (cf j) 15) (Q (Y l j n_).G4) (cK (cf j) 15)) (Y l j n_).G4/\SR F (sL (cA (cf j) 16) (Q (Y l j n_).G7) (cK (cf j) 16)) (Y l j n_).G7:=by
 rcases a0p j (Q l) with hj|hj
 ·have⟨E,_⟩:=h.1 n_ hj;have⟨a8,k8,a6,bb,a7,bf,a9,bl,ba,bn,Z,h0,E,h2,h3,h4,h5,h6,h7,h8,h9,O,T,U⟩:=StmT.out E;rw[show cf j=_ from Z];exact⟨h0,E,h2,h3,h4,h5,h6,h7,h8,h9,O,T,U⟩
 rw[bW hj,h.2 hj];exact⟨by decide,by decide,by decide,by decide,by decide,by decide,by decide,by decide,SR.nil,SR.nil,SR.nil,SR.nil,SR.nil⟩
structure FunT where
 pp:Str
 A:(List Str)
 B:(List Str)
 G6:(List StmT)
 val:ExpT
 deriving Inhabited
instance :Rp FunT where
 sz:=9
 rep F cs x:= ∃a1 k1 a2 k2 a3 k3 a8 k8,cs=[tX x.pp.b,sL a1 (Q x.A) k1,sL a2 (Q x.B) k2,sL a3 (Q x.G6) k3,iI x.val.j,iI x.val.n,tX x.val.pp.b,iI x.val.op,sL a8 (Q x.val.I) k8]/\in64 x.val.j/\in64 x.val.n/\in64 x.val.op/\SR F (sL a1 (Q x.A) k1) x.A/\SR F (sL a2 (Q x.B) k2) x.B/\SR F (sL a3 (Q x.G6) k3) x.G6/\SR F (sL a8 (Q x.val.I) k8) x.val.I
 len:=by rintro F cs x ⟨a1,k1,a2,k2,a3,k3,a8,k8,rfl,_⟩;rfl
 one:=by rintro F cs x ⟨a1,k1,a2,k2,a3,k3,a8,k8,rfl,_⟩;rfl
 ac:=by rintro F F' cs x hF ⟨a1,k1,a2,k2,a3,k3,a8,k8,rfl,h0,h1,h2,h3,h4,h5,h6⟩;exact⟨a1,k1,a2,k2,a3,k3,a8,k8,V,h0,h1,h2,h3.ac hF,h4.ac hF,h5.ac hF,h6.ac hF⟩
theorem FunT.vw{F}{get:Nat->Option AObj}{v:Value}{cf:Nat->List Value}{j:Nat}{l:List FunT}(h:VW F get v l cf j)(hj:j<Q l:=by first|(dsimp only;omega)|omega):HC get (sB v) (sO v+j *Rp.sz FunT) [tX (Y l j n_).pp.b,sL (cA (cf j) 1) (Q (Y l j n_).A) (cK (cf j) 1),sL (cA (cf j) 2) (Q (Y l j n_).B) (cK (cf j) 2),sL (cA (cf j) 3) (Q (Y l j n_).G6) (cK (cf j) 3),iI (Y l j n_).val.j,iI (Y l j n_).val.n,tX (Y l j n_).val.pp.b,iI (Y l j n_).val.op,sL (cA (cf j) 8) (Q (Y l j n_).val.I) (cK (cf j) 8)]:=by have⟨⟨T,k1,U,k2,Z,k3,a8,k8,O,_⟩,E⟩:=h.1 n_ hj;rw[show cf j=_ from O]at E⊢;exact E
theorem FunT.fx{F}{get:Nat->Option AObj}{v:Value}{cf:Nat->List Value}{j}{l:List FunT}(h:VW F get v l cf j):in64 (Y l j n_).val.j/\in64 (Y l j n_).val.n/\in64 (Y l j n_).val.op/\SR F (sL (cA (cf j) 1) (Q (Y l j n_).A) (cK (cf j) 1)) (Y l j n_).A/\SR F (sL (cA (cf j) 2) (Q (Y l j n_).B) (cK (cf j) 2)) (Y l j n_).B/\SR F (sL (cA (cf j) 3) (Q (Y l j n_).G6) (cK (cf j) 3)) (Y l j n_).G6/\SR F (sL (cA (cf j) 8) (Q (Y l j n_).val.I) (cK (cf j) 8)) (Y l j n_).val.I:=by
 rcases a0p j (Q l) with hj|hj
 ·have⟨⟨a1,k1,a2,k2,a3,k3,a8,k8,E,O,T,U,Z,h4,h5,h6⟩,_⟩:=h.1 n_ hj;rw[show cf j=_ from E];exact⟨O,T,U,Z,h4,h5,h6⟩
 rw[bW hj,h.2 hj];exact⟨by decide,by decide,by decide,SR.nil,SR.nil,SR.nil,SR.nil⟩
structure ArrT where
 pp:Str
 len:Int
 deriving Inhabited
instance :Rp ArrT where
 sz:=2
 rep F cs x:=cs=[tX x.pp.b,iI x.len]/\in64 x.len
 len:=by rintro F cs x ⟨rfl,_⟩;rfl
 one:=by rintro F cs x ⟨rfl,_⟩;rfl
 ac:=by intro F F' cs x _ h;exact h
theorem ArrT.vw{F}{get:Nat->Option AObj}{v:Value}{cf:Nat->List Value}{j:Nat}{l:List ArrT}(h:VW F get v l cf j)(T:j<Q l:=by first|(dsimp only;omega)|omega):HC get (sB v) (sO v+j *Rp.sz ArrT) [tX (Y l j n_).pp.b,iI (Y l j n_).len]:=by have⟨⟨O,_⟩,E⟩:=h.1 n_ T;rw[show cf j=_ from O]at E;exact E
theorem ArrT.fx{F}{get:Nat->Option AObj}{v:Value}{cf:Nat->List Value}{j:Nat}{l:List ArrT}(h:VW F get v l cf j):in64 (Y l j n_).len:=by
 rcases a0p j (Q l) with hj|hj
 ·have⟨⟨O,E⟩,_⟩:=h.1 n_ hj;exact E
 rw[bW hj];decide
structure PrgT where
 d:(List ArrT)
 U:(List FunT)
 deriving Inhabited
instance :Rp PrgT where
 sz:=2
 rep F cs x:= ∃a0 k0 a1 k1,cs=[sL a0 (Q x.d) k0,sL a1 (Q x.U) k1]/\SR F (sL a0 (Q x.d) k0) x.d/\SR F (sL a1 (Q x.U) k1) x.U
 len:=by rintro F cs x ⟨a0,k0,a1,k1,rfl,_⟩;rfl
 one:=by rintro F cs x ⟨a0,k0,a1,k1,rfl,_⟩;rfl
 ac:=by rintro F F' cs x hF ⟨a0,k0,a1,k1,rfl,h0,h1⟩;exact⟨a0,k0,a1,k1,V,h0.ac hF,h1.ac hF⟩
structure RdrT where
 l:(List Token)
 G2:Int
 E:Int
 Gf:Bool
 deriving Inhabited
instance :Rp RdrT where
 sz:=4
 rep F cs x:= ∃a0 k0,cs=[sL a0 (Q x.l) k0,iI x.G2,iI x.E,.bool x.Gf]/\in64 x.G2/\in64 x.E/\SR F (sL a0 (Q x.l) k0) x.l
 len:=by rintro F cs x ⟨a0,k0,rfl,_⟩;rfl
 one:=by rintro F cs x ⟨a0,k0,rfl,_⟩;rfl
 ac:=by rintro F F' cs x hF ⟨a0,k0,rfl,h0,h1,h2⟩;exact⟨a0,k0,V,h0,h1,h2.ac hF⟩
structure PrsT where
 l:(List Token)
 i:Int
 E:Int
 e:ErrT
 deriving Inhabited
instance :Rp PrsT where
 sz:=5
 rep F cs x:= ∃a0 k0,cs=[sL a0 (Q x.l) k0,iI x.i,iI x.E,iI x.e.L,iI x.e.G2]/\in64 x.i/\in64 x.E/\in64 x.e.L/\in64 x.e.G2/\SR F (sL a0 (Q x.l) k0) x.l
 len:=by rintro F cs x ⟨a0,k0,rfl,_⟩;rfl
 one:=by rintro F cs x ⟨a0,k0,rfl,_⟩;rfl
 ac:=by rintro F F' cs x hF ⟨a0,k0,rfl,h0,h1,h2,h3,h4⟩;exact⟨a0,k0,V,h0,h1,h2,h3,h4.ac hF⟩
abbrev Rs(α:Type):=Except Nat (α×Nat)
def bnd{α β:Type}(m:Rs α)(f:α->Nat->Rs β):Rs β:=match m with
 | .error p=> .error p
 | .ok (x,i)=>f x i
def isS(ts:List Token)(i:Nat)(w:List UInt8):Bool:=decide ((Y ts i n_).j=3)&&decide ((Y ts i n_).D.b=w)
def isK(ts:List Token)(i:Nat)(w:List UInt8):Bool:=decide ((Y ts i n_).j=1)&&decide ((Y ts i n_).D.b=w)
def mtk:List (List UInt8):=[[97,114,114,97,121],[102,117,110,99],[118,97,114],[114,101,116,117,114,110],[105,102],[101,108,115,101],[119,104,105,108,101],[111,117,116],[116,114,97,112]]
def ig(w:List UInt8):Bool:=decide (w∈mtk)
def isN(ts:List Token)(i:Nat):Bool:=decide ((Y ts i n_).j=1)&& !ig (Y ts i n_).D.b
def isM(ts:List Token)(i:Nat):Bool:=decide ((Y ts i n_).j=2)
def i4(ts:List Token)(w:List UInt8)(i:Nat):Rs Unit:=if isS ts i w then .ok ((),i+1) else .error i
def keyM(ts:List Token)(w:List UInt8)(i:Nat):Rs Unit:=if isK ts i w then .ok ((),i+1) else .error i
def iZ(ts:List Token)(i:Nat):Rs Str:=if isN ts i then .ok ((Y ts i n_).D,i+1) else .error i
def numV(ts:List Token)(i:Nat):Option Int:=bu (Y ts i n_).D.b
def i7(ts:List Token)(i:Nat):Rs Int:=if isM ts i&&(numV ts i).isSome&&decide ((numV ts i).getD 0<=1000000) then .ok ((numV ts i).getD 0,i+1) else .error i
def opL:List (List UInt8×Int×Int×Bool):=[([124],10,0,false),([94],11,1,false),([38],9,2,false),([61,61],15,3,false),([33,61],16,3,false),([60],17,4,false),([60,61],18,4,false),([62],17,4,true),([62,61],18,4,true),([60,60],12,5,false),([62,62],14,5,false),([62,62,62],13,5,false),([43],4,6,false),([45],5,6,false),([42],6,7,false),([47],7,7,false),([37],8,7,false)]
def opT(s:List UInt8):Int×Int×Bool:=((opL.find? λq=>decide (s=q.1)).map (·.2)).getD (0,0,false)
def opK(ts:List Token)(k:Nat)(i:Nat):Int:=if decide ((Y ts i n_).j=3)&&decide ((opT (Y ts i n_).D.b).2.1=(k:Int)) then(opT (Y ts i n_).D.b).1 else 0
def mkE(O n:Int)(name:Str)(op:Int)(E:List ExpT):ExpT:=⟨O,n,name,op,E⟩
def bP:Str:=⟨[]⟩
def mkB(ts:List Token)(i:Nat)(a b:ExpT):ExpT:=mkE 4 0 bP (opT (Y ts i n_).D.b).1 (if(opT (Y ts i n_).D.b).2.2 then [b,a] else [a,b])
def numE(n:Int):ExpT:=mkE 1 n bP 0 []
mutual
def ev(ts:List Token):Nat->Nat->Rs ExpT
 |0,i=> .error i
 |n+1,i=>bnd (binM ts n 0 i) λc i=>if isS ts i [63] then bnd (ev ts n (i+1)) λa i=>bnd (i4 ts [58] i) λ_ i=>bnd (ev ts n i) λb i=> .ok (mkE 5 0 bP 0 [c,a,b],i) else .ok (c,i)
def binM(ts:List Token):Nat->Nat->Nat->Rs ExpT
 |0,_,i=> .error i
 |n+1,k,i=>if k=8 then jM ts n i else bnd (binM ts n (k+1) i) λa i=>oV ts n k a i
def oV(ts:List Token):Nat->Nat->ExpT->Nat->Rs ExpT
 |0,_,_,i=> .error i
 |n+1,k,a,i=>if opK ts k i=0 then .ok (a,i) else bnd (binM ts n (k+1) (i+1)) λb j=>oV ts n k (mkB ts i a b) j
def jM(ts:List Token):Nat->Nat->Rs ExpT
 |0,i=> .error i
 |n+1,i=>
  if isS ts i [45] then(if isM ts (i+1) then .ok (numE ((bu (45::(ts.getD (i+1) n_).D.b)).getD 0),i+2) else bnd (jM ts n (i+1)) λx i=> .ok (mkE 4 0 bP 20 [x],i))
  else if isS ts i [126] then bnd (jM ts n (i+1)) λx i=> .ok (mkE 4 0 bP 21 [x],i)
  else if isS ts i [33] then bnd (jM ts n (i+1)) λx i=> .ok (mkE 4 0 bP 15 [x,numE 0],i)
  else if isS ts i [40] then bnd (ev ts n (i+1)) λx i=>bnd (i4 ts [41] i) λ_ i=> .ok (x,i)
  else priM ts n i
def priM(ts:List Token):Nat->Nat->Rs ExpT
 |0,i=> .error i
 |n+1,i=>
  if isM ts i then(if(numV ts i).isSome then .ok (numE ((numV ts i).getD 0),i+1) else .error i)
  else bnd (iZ ts i) λs i=>if isS ts i [91] then bnd (ev ts n (i+1)) λx i=>bnd (i4 ts [93] i) λ_ i=> .ok (mkE 3 0 s 0 [x],i) else .ok (mkE 2 0 s 0 [],i)
end
def Lim{α:Type}(f:Nat->Rs α)(r:Rs α):Prop:= ∃E,∀n,E<=n->f n=r
theorem Lim.uniq{α:Type}{f:Nat->Rs α}{r q:Rs α}(h:Lim f r)(k:Lim f q):r=q:=by have⟨a,ha⟩:=h;have⟨b,hb⟩:=k;exact(ha (max a b) (a1B ..)).symm.trans (hb _ (a1d ..))
theorem Lim.Gk{α:Type}(r:Rs α):Lim (λ_=>r) r:=⟨0,λ_ _=>rfl⟩
theorem Lim.Gj{α:Type}{f g:Nat->Rs α}{r:Rs α}(h:Lim g r)(e: ∀n,f (n+1)=g n):Lim f r:=by
 have⟨a,ha⟩:=h;refine⟨a+1,λn E=>?_⟩;obtain⟨m,rfl⟩: ∃m,n=m+1:=⟨n-1,M⟩
 rw[e];exact ha m M
theorem Lim.seq{α β:Type}{f:Nat->Rs α}{g:Nat->α->Nat->Rs β}{x:α}{i:Nat}{r:Rs β}(h:Lim f (.ok (x,i)))(k:Lim (λn=>g n x i) r):Lim (λn=>bnd (f n) (g n)) r:=by have⟨a,ha⟩:=h;have⟨b,hb⟩:=k;refine⟨max a b,λn E=>?_⟩;show bnd (f n) (g n)=r;rw[ha n (a0i (a1B ..) E)];exact hb n (a0i (a1d ..) E)
theorem Lim.seqE{α β:Type}{f:Nat->Rs α}{g:Nat->α->Nat->Rs β}{p:Nat}(h:Lim f (.error p)):Lim (λn=>bnd (f n) (g n)) (.error p:Rs β):=by have⟨a,ha⟩:=h;refine⟨a,λn E=>?_⟩;show bnd (f n) (g n)=_;rw[ha n E];rfl
def Outc{α:Type}(f:Nat->Rs α)(x:α)(i:Int)(b:Bool):Prop:=(b=false/\∃j:Nat,i=(j:Int)/\Lim f (.ok (x,j)))\/(b=true/\∃p:Nat,i=(p:Int)/\Lim f (.error p))
theorem Outc.ok{α:Type}{f:Nat->Rs α}{x:α}{j:Nat}{i:Int}(h:Lim f (.ok (x,j)))(e:i=(j:Int):=by first|rfl|omega):Outc f x i false:= .inl ⟨V,j,e,h⟩
theorem Outc.err{α:Type}{f:Nat->Rs α}{x:α}{p:Nat}{i:Int}(h:Lim f (.error p))(e:i=(p:Int):=by first|rfl|omega):Outc f x i true:= .inr ⟨V,p,e,h⟩
theorem Outc.Gj{α:Type}{f g:Nat->Rs α}{x:α}{i:Int}{b:Bool}(h:Outc g x i b)(e: ∀n,f (n+1)=g n):Outc f x i b:=by
 rcases h with⟨E,j,O,T⟩|⟨E,j,O,T⟩
 ·exact .inl ⟨E,j,O,T.Gj e⟩
 exact .inr ⟨E,j,O,T.Gj e⟩
theorem Outc.seq{α β:Type}{f:Nat->Rs α}{g:Nat->α->Nat->Rs β}{x:α}{y:β}{i Z:Int}{b T:Bool}(h:Outc f x i b)(k:b=false->Outc (λn=>g n x i.toNat) y Z T)(kb:b=true->Z=i/\T=true):Outc (λn=>bnd (f n) (g n)) y Z T:=by
 rcases h with⟨U,j,h2,O⟩|⟨U,p,h2,O⟩
 ·have e:i.toNat=j:=M
  rcases k U with⟨k1,j2,k2,E⟩|⟨k1,j2,k2,E⟩
  ·rw[e]at E;exact .inl ⟨k1,j2,k2,O.seq E⟩
  rw[e]at E;exact .inr ⟨k1,j2,k2,O.seq E⟩
 have⟨k1,k2⟩:=kb U;exact .inr ⟨k2,p,by rw[k1,h2],O.seqE⟩
theorem Outc.eqf{α:Type}{f g:Nat->Rs α}{x:α}{i:Int}{b:Bool}(h:Outc g x i b)(e:f=g):Outc f x i b:=e▸h
theorem Outc.iteT{α:Type}{f g:Nat->Rs α}{p:Prop} [Decidable p]{x:α}{i:Int}{b:Bool}(E:p)(h:Outc f x i b):Outc (λn=>if p then f n else g n) x i b:=h.eqf (funext λ_=>if_pos E)
theorem Outc.Gl{α:Type}{f g:Nat->Rs α}{p:Prop} [Decidable p]{x:α}{i:Int}{b:Bool}(E: ¬p)(h:Outc g x i b):Outc (λn=>if p then f n else g n) x i b:=h.eqf (funext λ_=>if_neg E)
theorem Outc.val{α:Type}{x:α}{j:Nat}{i:Int}(e:i=(j:Int):=by first|rfl|omega):Outc (λ_=> .ok (x,j)) x i false:= .ok (Lim.Gk _) e
theorem Outc.fail{α:Type}{x:α}{p:Nat}{i:Int}(e:i=(p:Int):=by first|rfl|omega):Outc (λ_=> .error p) x i true:= .err (Lim.Gk _) e
theorem Outc.uniq{α:Type}{f:Nat->Rs α}{x y:α}{i j:Int}{b c:Bool}(h:Outc f x i b)(k:Outc f y j c):b=c/\i=j/\(b=false->x=y):=by
 rcases h with⟨T,a,Z,E⟩|⟨T,a,Z,E⟩<;>rcases k with⟨k1,d,k2,O⟩|⟨k1,d,k2,O⟩
 ·have:=E.uniq O;injection this with e;injection e with U e2;exact⟨T.trans k1.symm,M,λ_=>U⟩
 ·have:=E.uniq O;cases this
 ·have:=E.uniq O;cases this
 have:=E.uniq O;injection this with e;exact⟨T.trans k1.symm,M,λh=>by rw[T]at h;cases h⟩
def mkS(E:Int)(name to:Str)(n:Int)(at_ val:ExpT)(args:List ExpT)(thn els:List StmT):StmT:=⟨E,name,to,n,at_,val,args,thn,els⟩
def zE:ExpT:=mkE 0 0 bP 0 []
def argL(ts:List Token):Nat->List ExpT->Nat->Rs (List ExpT)
 |0,_,i=> .error i
 |n+1,l,i=>if isS ts i [44] then bnd (ev ts n (i+1)) λb i=>argL ts n (l++[b]) i else bnd (i4 ts [41] i) λ_ i=> .ok (l,i)
def argM(ts:List Token)(n:Nat)(i:Nat):Rs (List ExpT):=bnd (i4 ts [40] i) λ_ i=>if isS ts i [41] then .ok ([],i+1) else bnd (ev ts n i) λa i=>argL ts n [a] i
def condM(ts:List Token)(n:Nat)(i:Nat):Rs ExpT:=bnd (i4 ts [40] i) λ_ i=>bnd (ev ts n i) λx i=>bnd (i4 ts [41] i) λ_ i=> .ok (x,i)
def simM(ts:List Token)(n:Nat)(i:Nat):Rs StmT:=
 if isK ts i [111,117,116] then bnd (ev ts n (i+1)) λx i=> .ok (mkS 5 bP bP 0 zE x [] [] [],i)
 else if isK ts i [116,114,97,112] then bnd (i7 ts (i+1)) λk i=> .ok (mkS 7 bP bP k zE zE [] [] [],i)
 else bnd (iZ ts i) λs i=>if isS ts i [91] then bnd (ev ts n (i+1)) λa i=>bnd (i4 ts [93] i) λ_ i=>bnd (i4 ts [61] i) λ_ i=>bnd (ev ts n i) λv i=> .ok (mkS 2 s bP 0 a v [] [] [],i)
  else bnd (i4 ts [61] i) λ_ i=>if isN ts i&&isS ts (i+1) [40] then bnd (iZ ts i) λf i=>bnd (argM ts n i) λl i=> .ok (mkS 6 s f 0 zE zE l [] [],i)
   else bnd (ev ts n i) λv i=> .ok (mkS 1 s bP 0 zE v [] [] [],i)
mutual
def stmM(ts:List Token):Nat->Nat->Rs StmT
 |0,i=> .error i
 |n+1,i=>
  if isK ts i [105,102] then bnd (condM ts n (i+1)) λv i=>bnd (blkM ts n i) λt i=>if isK ts i [101,108,115,101] then bnd (blkM ts n (i+1)) λe i=> .ok (mkS 3 bP bP 0 zE v [] t e,i) else .ok (mkS 3 bP bP 0 zE v [] t [],i)
  else if isK ts i [119,104,105,108,101] then bnd (condM ts n (i+1)) λv i=>bnd (blkM ts n i) λt i=> .ok (mkS 4 bP bP 0 zE v [] t [],i)
  else bnd (simM ts n i) λs i=>bnd (i4 ts [59] i) λ_ i=> .ok (s,i)
def blkM(ts:List Token):Nat->Nat->Rs (List StmT)
 |0,i=> .error i
 |n+1,i=>bnd (i4 ts [123] i) λ_ i=>stsM ts n [] i
def stsM(ts:List Token):Nat->List StmT->Nat->Rs (List StmT)
 |0,_,i=> .error i
 |n+1,l,i=>if isS ts i [125] then .ok (l,i+1) else bnd (stmM ts n i) λs i=>stsM ts n (l++[s]) i
end
def namL(ts:List Token):Nat->List Str->Nat->Rs (List Str)
 |0,_,i=> .error i
 |n+1,l,i=>if isS ts i [44] then bnd (iZ ts (i+1)) λb i=>namL ts n (l++[b]) i else .ok (l,i)
def namM(ts:List Token)(n:Nat)(i:Nat):Rs (List Str):=bnd (iZ ts i) λa i=>namL ts n [a] i
def nu(ts:List Token):Nat->List StmT->Nat->Rs (List StmT)
 |0,_,i=> .error i
 |n+1,l,i=>if isK ts i [114,101,116,117,114,110] then .ok (l,i+1) else bnd (stmM ts n i) λs i=>nu ts n (l++[s]) i
def mkF(name:Str)(p l:List Str)(b:List StmT)(v:ExpT):FunT:=⟨name,p,l,b,v⟩
def funM(ts:List Token)(n:Nat)(i:Nat):Rs FunT:=
 bnd (iZ ts i) λs i=>bnd (i4 ts [40] i) λ_ i=>bnd (if isS ts i [41] then .ok (([]:List Str),i) else namM ts n i) λp i=>bnd (i4 ts [41] i) λ_ i=>
 bnd (if isK ts i [118,97,114] then namM ts n (i+1) else .ok (([]:List Str),i)) λl i=>bnd (i4 ts [123] i) λ_ i=>bnd (nu ts n [] i) λb i=>bnd (ev ts n i) λv i=>bnd (i4 ts [59] i) λ_ i=>bnd (i4 ts [125] i) λ_ i=> .ok (mkF s p l b v,i)
def kH(ts:List Token):Nat->List ArrT->List FunT->Nat->Rs (List ArrT×List FunT)
 |0,_,_,i=> .error i
 |n+1,a,f,i=>if Q ts<=i then .ok ((a,f),i) else
  if isK ts i [97,114,114,97,121] then bnd (iZ ts (i+1)) λs i=>bnd (i7 ts i) λk i=>bnd (i4 ts [59] i) λ_ i=>kH ts n (a++[⟨s,k⟩]) f i
  else bnd (keyM ts [102,117,110,99] i) λ_ i=>bnd (funM ts n i) λg i=>kH ts n a (f++[g]) i
def Oc{α:Type}(f:Nat->Rs α)(b:Bool)(i:Int)(x:α)(O:Int)(E:Bool):Prop:=(b=true->E=true/\O=i)/\(b=false->Outc f x O E)
theorem Oc.out{α:Type}{f:Nat->Rs α}{b E:Bool}{i O:Int}{x:α}(h:Oc f b i x O E)(hb:b=false):Outc f x O E:=h.2 hb
theorem Oc.of{α:Type}{f:Nat->Rs α}{b E:Bool}{i O:Int}{x:α}(hb:b=false)(h:Outc f x O E):Oc f b i x O E:=⟨(λk=>by rw[hb]at k;cases k),λ_=>h⟩
theorem Oc.Gj{α:Type}{f g:Nat->Rs α}{b E:Bool}{i O:Int}{x:α}(h:Oc g b i x O E)(e: ∀n,f (n+1)=g n):Oc f b i x O E:=⟨h.1,λk=>(h.2 k).Gj e⟩
theorem Oc.eqf{α:Type}{f g:Nat->Rs α}{b E:Bool}{i O:Int}{x:α}(h:Oc g b i x O E)(e:b=false->f=g):Oc f b i x O E:=⟨h.1,λk=>(h.2 k).eqf (e k)⟩
theorem Oc.iteT{α:Type}{f g:Nat->Rs α}{p:Prop} [Decidable p]{b E:Bool}{i O:Int}{x:α}(T:b=false->p)(h:Oc f b i x O E):Oc (λn=>if p then f n else g n) b i x O E:=h.eqf λk=>funext λ_=>if_pos (T k)
theorem Oc.Gl{α:Type}{f g:Nat->Rs α}{p:Prop} [Decidable p]{b E:Bool}{i O:Int}{x:α}(T:b=false->¬p)(h:Oc g b i x O E):Oc (λn=>if p then f n else g n) b i x O E:=h.eqf λk=>funext λ_=>if_neg (T k)
theorem Oc.seq{α β:Type}{f:Nat->Rs α}{g:Nat->α->Nat->Rs β}{x:α}{y:β}{i O Z:Int}{b T U:Bool}(h:Oc f b i x O T)(k:Oc (λn=>g n x O.toNat) T O y Z U):Oc (λn=>bnd (f n) (g n)) b i y Z U:=
 ⟨λhb=>⟨(k.1 (h.1 hb).1).1,(k.1 (h.1 hb).1).2.trans (h.1 hb).2⟩,λhb=>(h.2 hb).seq k.2 λE=>⟨(k.1 E).2,(k.1 E).1⟩⟩
theorem Oc.val{α:Type}{x y:α}{b:Bool}{i:Int}(E:0<=i)(e:b=false->x=y):Oc (λ_=> .ok (y,i.toNat)) b i x i b:=⟨λh=>⟨h,V⟩,λh=>by rw[h,e h];exact .val M⟩
theorem ExpT.mq{F}{x:ExpT}{E}{O:Nat}(s4:Sr F E x.I O)(T:in64 x.j:=by first|omega|(dsimp only;omega)|assumption)(U:in64 x.n:=by first|omega|(dsimp only;omega)|assumption)(Z:in64 x.op:=by first|omega|(dsimp only;omega)|assumption):Rp.rep F [x.j,x.n,(tX x.pp.b),x.op,(S_ E x.I O)] x:=ExpT.mkr ⟨E,O,V,T,U,Z,s4⟩
theorem StmT.mq{F}{x:StmT}{a8}{k8:Nat}{E}{Z:Nat}{O}{al:Nat}{T}{an:Nat}{U}{ax:Nat}(s8:Sr F a8 x.G2.I k8)(a4:Sr F E x.val.I Z)(a5:Sr F O x.y al)(a6:Sr F T x.G4 an)(a7:Sr F U x.G7 ax)(h0:in64 x.j:=by first|omega|(dsimp only;omega)|assumption)(h3:in64 x.n:=by first|omega|(dsimp only;omega)|assumption)(h4:in64 x.G2.j:=by first|omega|(dsimp only;omega)|assumption)(h5:in64 x.G2.n:=by first|omega|(dsimp only;omega)|assumption)(h7:in64 x.G2.op:=by first|omega|(dsimp only;omega)|assumption)(h9:in64 x.val.j:=by first|omega|(dsimp only;omega)|assumption)(a2:in64 x.val.n:=by first|omega|(dsimp only;omega)|assumption)(a3:in64 x.val.op:=by first|omega|(dsimp only;omega)|assumption):Rp.rep F [x.j,(tX x.pp.b),(tX x.K.b),x.n,x.G2.j,x.G2.n,(tX x.G2.pp.b),x.G2.op,(S_ a8 x.G2.I k8),x.val.j,x.val.n,(tX x.val.pp.b),x.val.op,(S_ E x.val.I Z),(S_ O x.y al),(S_ T x.G4 an),(S_ U x.G7 ax)] x:=StmT.mkr ⟨a8,k8,E,Z,O,al,T,an,U,ax,V,h0,h3,h4,h5,h7,h9,a2,a3,s8,a4,a5,a6,a7⟩
abbrev rZ(b:Nat)(r:RdrT)(a:Option Addr)(k:Nat):Fp:=fP b [sL a (Q r.l) k,iI r.G2,iI r.E,.bool r.Gf]
abbrev tQ(ts:List Token):Prop:= ∀i,Q (Y ts i n_).D.b<=1000000
end pt
open pt
namespace pa
def nxT(r:RdrT):Token:=if r.Gf=true\/(Q r.l:Int)<=r.G2 then n_ else Y r.l r.G2.toNat n_
theorem nx_no{r:RdrT}(h:r.Gf=true\/(Q r.l:Int)<=r.G2):(⟨0,⟨[]⟩,0⟩:Token)=nxT r:=(if_pos h).symm
theorem nx_yes{r:RdrT}(h:r.Gf=false/\¬(Q r.l:Int)<=r.G2):Y r.l r.G2.toNat n_=nxT r:=(if_neg (λk=>k.elim (by rw[h.1];decide) h.2)).symm
def offV(l:List Token)(i E:Int):Int:=if i<(Q l:Int) then(Y l i.toNat n_).G2 else E
def isB(r:RdrT)(s:List UInt8):Bool:= !r.Gf&&isS r.l r.G2.toNat s
def kwB(r:RdrT)(s:List UInt8):Bool:= !r.Gf&&isK r.l r.G2.toNat s
def anB(r:RdrT):Bool:= !r.Gf&&isN r.l r.G2.toNat
theorem nK{r:RdrT}:nxT r=if r.Gf=true then n_ else Y r.l r.G2.toNat n_:=by
 unfold nxT;cases hb:r.Gf with
 |true=>simp
 |false=>
  by_cases h:(Q r.l:Int)<=r.G2
  ·rw[if_pos (.inr h),if_neg e_,bW M]
  rw[if_neg (by simp[h]),if_neg e_]
theorem isB_of{r:RdrT}{s:List UInt8}:((nxT r).j==3&&(nxT r).D.b==s)=isB r s:=by
 unfold isB isS;rw[nK,a0M];cases r.Gf with
 |true=>simp;intro h;cases h
 |false=>simp
theorem anB_of{r:RdrT}:((nxT r).j==1&& !(ig (nxT r).D.b))=anB r:=by
 unfold anB isN;rw[nK,a0M];cases r.Gf with
 |true=>simp;intro h;cases h
 |false=>simp
theorem isB_lt{ts:List Token}{r:RdrT}{s:List UInt8}(O:r.l=ts)(ha:0<=r.G2/\r.G2<=(Q ts:Int))(h:isB r s=true):r.G2<(Q ts:Int):=by
 unfold isB isS at h;rcases a0p r.G2.toNat (Q r.l) with E|E
 ·rw[O]at E;omega
 rw[bW E]at h;simp at h;exact absurd h.2.1 e_
theorem anB_lt{ts:List Token}{r:RdrT}(O:r.l=ts)(ha:0<=r.G2/\r.G2<=(Q ts:Int))(h:anB r=true):r.G2<(Q ts:Int):=by
 unfold anB isN at h;rcases a0p r.G2.toNat (Q r.l) with E|E
 ·rw[O]at E;omega
 rw[bW E]at h;simp at h;exact absurd h.2.1 e_
theorem acc_y{ts:List Token}{r:RdrT}{s:List UInt8}(E:r.l=ts)(h:isB r s=true):isB r s=true->r.Gf=false/\isS ts r.G2.toNat s=true/\r.G2+1=r.G2+1/\r.Gf=false:=λ_=>by unfold isB at h;rw[a04,a0K,E]at h;exact⟨h.1,h.2,V,h.1⟩
theorem acc_n{ts:List Token}{r:RdrT}{s:List UInt8}(E:r.l=ts)(h:isB r s=false):isB r s=false->r.G2=r.G2/\r.Gf=r.Gf/\(r.Gf=false->¬isS ts r.G2.toNat s=true):=λ_=>⟨V,V,λhb k=>by
 unfold isB at h;rw[hb,E,k]at h;cases h⟩
theorem kwB_of{r:RdrT}{s:List UInt8}:kwB r s=true↔((nxT r).j=1/\(nxT r).D.b=s):=by
 unfold kwB isK;rw[nK];cases r.Gf with
 |true=>simp;intro h;cases h
 |false=>simp
theorem kwB_f{r:RdrT}{s:List UInt8}(h:(nxT r).j≠1\/(nxT r).D.b≠s):kwB r s=false:=by
 cases e:kwB r s with
 |false=>rfl
 |true=>exact absurd (kwB_of.1 e) (λk=>h.elim (λh=>h k.1) λh=>h k.2)
theorem kwB_t{r:RdrT}{s:List UInt8}(h:(nxT r).j=1/\(nxT r).D.b=s):kwB r s=true:=kwB_of.2 h
theorem kwB_lt{ts:List Token}{r:RdrT}{s:List UInt8}(O:r.l=ts)(ha:0<=r.G2/\r.G2<=(Q ts:Int))(h:kwB r s=true):r.G2<(Q ts:Int):=by
 unfold kwB isK at h;rcases a0p r.G2.toNat (Q r.l) with E|E
 ·rw[O]at E;omega
 rw[bW E]at h;simp at h;exact absurd h.2.1 e_
theorem kac_y{ts:List Token}{r:RdrT}{s:List UInt8}(E:r.l=ts)(h:kwB r s=true):kwB r s=true->r.Gf=false/\isK ts r.G2.toNat s=true/\r.G2+1=r.G2+1/\r.Gf=false:=λ_=>by unfold kwB at h;rw[a04,a0K,E]at h;exact⟨h.1,h.2,V,h.1⟩
theorem kac_n{ts:List Token}{r:RdrT}{s:List UInt8}(E:r.l=ts)(h:kwB r s=false):kwB r s=false->r.G2=r.G2/\r.Gf=r.Gf/\(r.Gf=false->¬isK ts r.G2.toNat s=true):=λ_=>⟨V,V,λhb k=>by
 unfold kwB at h;rw[hb,E,k]at h;cases h⟩
theorem acc_c{b:Bool}{P:Prop}(h:b=true):b=false->P:=λk=>by rw[h]at k;cases k
theorem acc_d{b:Bool}{P:Prop}(h:b=false):b=true->P:=λk=>by rw[h]at k;cases k
theorem exp_n{ts:List Token}{s:List UInt8}{r:RdrT}{j:Int}(E:0<=r.G2)(q:j=r.G2/\True/\(r.Gf=false->¬isS ts r.G2.toNat s=true)):Oc (λ_=>i4 ts s r.G2.toNat) r.Gf r.G2 () j true:=⟨λ_=>⟨V,q.1⟩,λhb=>by unfold i4;rw[if_neg (q.2.2 hb)];exact .fail (by have:=q.1;omega)⟩
theorem exp_y{ts:List Token}{s:List UInt8}{r:RdrT}{j:Int}{b:Bool}(E:0<=r.G2)(q:r.Gf=false/\isS ts r.G2.toNat s=true/\j=r.G2+1/\b=false):Oc (λ_=>i4 ts s r.G2.toNat) r.Gf r.G2 () j b:=Oc.of q.1 (by unfold i4;rw[if_pos q.2.1,q.2.2.2];exact .val (by have:=q.2.2.1;omega))
theorem pN{ts:List Token}{r:RdrT}(E:r.l=ts):anB r=true↔r.Gf=false/\isN ts r.G2.toNat=true:=by unfold anB;rw[a04,a0K,E]
theorem nam_n{ts:List Token}{r:RdrT}{x:Str}(O:r.l=ts)(E:0<=r.G2)(h:anB r=false):Oc (λ_=>iZ ts r.G2.toNat) r.Gf r.G2 x r.G2 true:=⟨λ_=>⟨V,V⟩,λhb=>by
 unfold iZ;rw[if_neg (λk=>by rw[(pN O).2 ⟨hb,k⟩]at h;cases h)];exact .fail M⟩
theorem nam_y{ts:List Token}{r:RdrT}(U:r.l=ts)(T:0<=r.G2)(h:anB r=true):Oc (λ_=>iZ ts r.G2.toNat) r.Gf r.G2 (⟨(Y r.l (r.G2+1-1).toNat n_).D.b⟩:Str) (r.G2+1) r.Gf:=by have⟨E,O⟩:=(pN U).1 h;refine Oc.of E ?_;unfold iZ;rw[if_pos O,E,U,show(r.G2+1-1).toNat=r.G2.toNat by omega];exact .val M
theorem a_7{p:Prop}(h:p:=by simp_all[ig,mtk]):p:=h
theorem reserved_c(ex:FuncId)(s:List UInt8)(H:Heap):kKt ex 116 [(tX s)] H λv H'=> ∃(o:Bool),H'=H/\v= .bool o/\o=ig s:=by
 refine ay Tryz.func116 V V (aj 1 V (wr 3 [] 2 2 [] [(2,false)] trivial V V λ_=>wr 4 [] 3 3 [] [(3,(tX s))] trivial V V λ_=>wr 1 [] 4 5 [] [(4,(s==([97,114,114,97,121]:List UInt8)))] trivial V V λ_=>zi 1 1 (λan=>?_) λan=>?_))
 ·have c4:=an;try simp only[BS]at c4
  refine bx 1 V an V V (wr 1 [] 2 2 [] [(2,true)] trivial V V λ_=>ag ⟨.inr V,_,V,_,V,V,a_7⟩)
 refine wr 1 [] 4 6 [] [(4,(s==([102,117,110,99]:List UInt8)))] trivial V V λ_=>zi 1 1 (λax=>?_) λax=>?_
 ·have c7:=ax;try simp only[BS]at c7
  refine bx 1 V ax V V (wr 1 [] 2 2 [] [(2,true)] trivial V V λ_=>ag ⟨.inr V,_,V,_,V,V,a_7⟩)
 refine wr 1 [] 4 7 [] [(4,(s==([118,97,114]:List UInt8)))] trivial V V λ_=>zi 1 1 (λE=>?_) λE=>?_
 ·have aA:=E;try simp only[BS]at aA
  refine bx 1 V E V V (wr 1 [] 2 2 [] [(2,true)] trivial V V λ_=>ag ⟨.inr V,_,V,_,V,V,a_7⟩)
 refine wr 1 [] 4 8 [] [(4,(s==([114,101,116,117,114,110]:List UInt8)))] trivial V V λ_=>zi 1 1 (λO=>?_) λO=>?_
 ·have a1:=O;try simp only[BS]at a1
  refine bx 1 V O V V (wr 1 [] 2 2 [] [(2,true)] trivial V V λ_=>ag ⟨.inr V,_,V,_,V,V,a_7⟩)
 refine wr 1 [] 4 9 [] [(4,(s==([105,102]:List UInt8)))] trivial V V λ_=>zi 1 1 (λT=>?_) λT=>?_
 ·have a2:=T;try simp only[BS]at a2
  refine bx 1 V T V V (wr 1 [] 2 2 [] [(2,true)] trivial V V λ_=>ag ⟨.inr V,_,V,_,V,V,a_7⟩)
 refine wr 1 [] 4 10 [] [(4,(s==([101,108,115,101]:List UInt8)))] trivial V V λ_=>zi 1 1 (λU=>?_) λU=>?_
 ·have a3:=U;try simp only[BS]at a3
  refine bx 1 V U V V (wr 1 [] 2 2 [] [(2,true)] trivial V V λ_=>ag ⟨.inr V,_,V,_,V,V,a_7⟩)
 refine wr 1 [] 4 11 [] [(4,(s==([119,104,105,108,101]:List UInt8)))] trivial V V λ_=>zi 1 1 (λZ=>?_) λZ=>?_
 ·have a4:=Z;try simp only[BS]at a4
  refine bx 1 V Z V V (wr 1 [] 2 2 [] [(2,true)] trivial V V λ_=>ag ⟨.inr V,_,V,_,V,V,a_7⟩)
 refine wr 1 [] 4 12 [] [(4,(s==([111,117,116]:List UInt8)))] trivial V V λ_=>zi 1 0 (λal=>?_) λal=>?_
 ·have a5:=al;try simp only[BS]at a5
  refine bx 1 V al V V (wr 1 [] 2 2 [] [(2,true)] trivial V V λ_=>ag ⟨.inr V,_,V,_,V,V,a_7⟩)
 refine wr 1 [] 4 13 [] [(4,(s==([116,114,97,112]:List UInt8)))] trivial V V λ_=>zI 1 3 (λa6=>?_) λa6=>?_
 ·refine wr 1 [] 2 2 [] [(2,true)] trivial V V λ_=>ag ⟨.inr V,_,V,_,V,V,a_7⟩
 refine wr 1 [] 2 2 [] [(2,false)] trivial V V λ_=>ag ⟨.inr V,_,V,_,V,V,a_7⟩
theorem reserved_c_q(ex:FuncId)(s:List UInt8)(H:Heap):kKt ex 116 [(tX s)] H λv H'=>v=(.bool (ig s))/\H'=H:=
 cq (reserved_c ex s H) (by rintro _ _ ⟨_,rfl,rfl,rfl⟩;exact⟨V,V⟩)
variable (ts:List Token)
variable (ex:FuncId) {F:Fz} {H:Heap} {R:List Fp}
structure Pr1(H:Heap)(b_r:Nat)(F:Fz)(ar_0:Option Addr)(r:RdrT)(kr_0:Nat)(R:List Fp)(ts:List Token):Prop where
 hs:HS (.of H [b_r]) F H [[(b_r,.cells [(sL ar_0 (Q r.l) kr_0),(iI r.G2),(iI r.E),(.bool r.Gf)] none false)]] R
 hr_0:SR F (sL ar_0 (Q r.l) kr_0) r.l
 hr_1:in64 r.G2:=by first|assumption|omega|(dsimp only;omega)|(rw[hts];omega)|exact er
 hr_2:in64 r.E:=by first|assumption|omega|(dsimp only;omega)|(rw[hts];omega)|exact er
 htx: ∀i,Q (Y ts i n_).D.b<=1000000:=by first|assumption|omega|(dsimp only;omega)|exact a0i (gN s).1 e_|exact(gN s).2
 hts:r.l=ts:=by first|assumption|omega|(dsimp only;omega)|exact a0i (gN s).1 e_|exact(gN s).2
 hat:0<=r.G2/\r.G2<=(Q ts:Int):=by first|assumption|omega|(dsimp only;omega)|exact a0i (gN s).1 e_|exact(gN s).2
 htl:Q ts<=1000000:=by first|assumption|omega|(dsimp only;omega)|exact a0i (gN s).1 e_|exact(gN s).2
theorem mF{O T an}(r:RdrT)(h0:Pr1 H an F O r T R ts):kKt ex 78 [(pT an 0)] H λv H'=> ∃(t:Token),∃F',F.le F'/\HS (.of H [an]) F' H' [(rZ an r O T)] R/\v= .agg ⟨[iI t.j,tX t.D.b,iI t.G2]⟩/\in64 t.j/\in64 t.G2/\t=nxT r:=by
 have⟨hs,ar,a7,a8,bb,hts,a9,ba⟩:=h0;refine ay Tryz.func78 V V (aj 1 V (ab (zn hs V λb1 H2 E=>ai 3 V (sdr0 1 3 18 [] [(18,(r.Gf||(decide ((Q r.l:Int)<=r.G2))))] (Hr_ 3 0 (dj 8 (λ_=>(ql 3 1 (hc0 (h_ E V)) V V)) (dj 12 (λ_=>(ql 78 0 (hc0 (h_ E V)) V V)) Hn_))) E V V V λ_=>?_))));refine zI 1 2 (λc4=>?_) λc4=>?_
 ·have c1:=c4;refine sgr 1 19 19 [] [] (Hr_ 1 1 Hn_) E V V λa3 H5 U=>ag ⟨.inr V,_,(rC V (bV V V (i_ U V) V) rN),_,_,fR,(HS.G9 U),V,M,M,(nx_no c1)⟩
 have c1:=c4;have⟨a2,al⟩:=Sv.Gg (SR.sv ar E);have⟨ax,aA⟩:=Token.fx (al r.G2.toNat);refine sdr 1 20 29 [] [] (Hr_ 3 0 (Hr_ 7 0 (Ha_ (Sv.ix (SR.sv ar E)) (Hl_ 9 (qn 112 0 3 (hc0 (Token.vw (al r.G2.toNat) M)) V V V V) (Hr_ 10 1 Hn_))))) E V V V λa4 H8 Z=>ag ⟨.inr V,_,(rC V (bV V V (i_ Z V) V) rN),_,_,fR,(HS.G9 Z),V,M,M,(nx_yes c1)⟩
theorem offset_c{E O an}(r:RdrT)(h0:Pr1 H an F E r O R ts):kKt ex 43 [(pT an 0)] H λv H'=> ∃(x:Int),∃F',F.le F'/\HS (.of H [an]) F' H' [(rZ an r E O)] R/\v=iI x/\x=offV r.l r.G2 r.E:=by
 have⟨hs,ar,a1,a2,a5,hts,a3,a4⟩:=h0;refine ay Tryz.func43 V V (aj 1 V (wr 3 [] 2 2 [] [(2,(.int _ 0))] trivial V V λ_=>sdr0 1 3 12 [] [(12,(decide (r.G2<(Q r.l:Int))))] (Hr_ 3 0 (Hr_ 7 0 Hn_)) hs V V V λ_=>zd 1 2 (λU=>?_) λU=>?_))
 ·have⟨ax,T⟩:=Sv.Gg (SR.sv ar hs);have⟨Z,al⟩:=Token.fx (T r.G2.toNat);refine sdr0 1 13 23 [2] [(2,(.int _ _))] (Hr_ 3 0 (Hr_ 7 0 (Ha_ (Sv.ix (SR.sv ar hs)) (Hl_ 10 (ql 3 2 (hc0 (Token.vw (T r.G2.toNat) M)) V V) Hn_)))) hs V V V λ_=>ag ⟨.inr V,_,V,_,_,fR,(HS.G9 hs),V,(by(unfold offV;first|rw[if_pos M]|rw[if_neg M]))⟩
 refine bQ 1 24 27 [2] [(2,(.int _ _))] (Hr_ 3 0 Hn_) hs V V λ_=>ag ⟨.inr V,_,V,_,_,fR,(HS.G9 hs),V,(by(unfold offV;first|rw[if_pos M]|rw[if_neg M]))⟩
abbrev Po2(F:Fz)(H:Heap)(b_r:Nat)(ar_0:Option Addr)(r:RdrT)(kr_0:Nat)(R:List Fp)(c_:Bool)(v:Value)(H':Heap):Prop:= ∃(o:Bool),∃F',F.le F'/\HS (.of H [b_r]) F' H' [[(b_r,.cells [(sL ar_0 (Q r.l) kr_0),(iI r.G2),(iI r.E),(.bool r.Gf)] none false)]] R/\v= .bool o/\o=c_
theorem is_c{E U ar}(r:RdrT)(s:List UInt8)(h0:Pr1 H ar F E r U R ts):kKt ex 82 [(pT ar 0),(tX s)] H (Po2 F H ar E r U R (isB r s)):=by have⟨hs,aA,a4,a5,a8,hts,a6,a7⟩:=h0;refine ay Tryz.func82 V V (aj 1 V (wr 2 [] 4 4 [] [(4,false)] trivial V V λ_=>ab (zm (pT ar 0) (zc (mF ts ex r (.mk (g_ hs V) aA)) ?_))));rintro _ H2 ⟨t2,F2,Z,O,rfl,al,an,rfl⟩;replace O:=hs.bO O;refine zn O V λb3 H4 ax=>sgo 1 3 1 0 [] [] (Hr_ 3 1 Hn_) ax V V λa1 H5 T=>ai 2 V (bQ 1 8 16 [4] [(4,(((nxT r).j==3)&&((nxT r).D.b==s)))] (Hr_ 1 1 (dj 5 (λ_=>(ql 9 1 (i_ T V) V V)) Hn_)) T V V λ_=>ag ⟨.inr V,_,V,_,_,(Z),(HS.G9 T),V,(isB_of)⟩)
theorem atName_c{E U ar}(r:RdrT)(h0:Pr1 H ar F E r U R ts):kKt ex 79 [(pT ar 0)] H (Po2 F H ar E r U R (anB r)):=by have⟨hs,aA,a5,a6,a9,hts,a7,a8⟩:=h0;refine ay Tryz.func79 V V (aj 1 V (wr 2 [] 2 2 [] [(2,false)] trivial V V λ_=>ab (zm (pT ar 0) (zc (mF ts ex r (.mk (g_ hs V) aA)) ?_))));rintro _ H2 ⟨t2,F2,Z,O,rfl,al,an,rfl⟩;replace O:=hs.bO O;refine zn O V λb3 H4 ax=>sgo 1 3 1 0 [] [] (Hr_ 3 1 Hn_) ax V V λa2 H5 T=>ai 2 V (bQ 1 6 14 [2] [(2,(((nxT r).j==1)&&(!(ig (nxT r).D.b))))] (Hr_ 1 1 (dj 5 (λ_=>(ql 9 1 (i_ T V) V V)) (Hc1_ 6 (λ_=>(reserved_c_q ex _ H5)) Hn_))) T V V λ_=>ag ⟨.inr V,_,V,_,_,(Z),(HS.G9 T),V,(anB_of)⟩)
abbrev Po3(F:Fz)(H:Heap)(b_r:Nat)(R:List Fp)(Φ:Bool->RdrT->Prop)(v:Value)(H':Heap):Prop:= ∃(o:Bool) (r':RdrT),∃am_0,∃(km_0:Nat),∃F',F.le F'/\HS (.of H [b_r]) F' H' [[(b_r,.cells [(sL am_0 (Q r'.l) km_0),(iI r'.G2),(iI r'.E),(.bool r'.Gf)] none false)]] R/\v= .bool o/\in64 r'.G2/\in64 r'.E/\SR F' (sL am_0 (Q r'.l) km_0) r'.l/\Φ o r'
theorem eT{T Z aA}(r:RdrT)(s:List UInt8)(h0:Pr1 H aA F T r Z R ts):kKt ex 81 [(pT aA 0),(tX s)] H (Po3 F H aA R λo r'=>o=isB r s/\(isB r s=true->r.Gf=false/\isS ts r.G2.toNat s=true/\r'.G2=r.G2+1/\r'.Gf=false)/\(isB r s=false->r'.G2=r.G2/\r'.Gf=r.Gf/\(r.Gf=false->¬isS ts r.G2.toNat s=true))/\(r'.l=ts)/\(r.G2<=r'.G2/\r'.G2<=(Q ts:Int))/\(r'.E=r.E)):=by
 have⟨hs,an,a4,a5,a7,hts,a1,a6⟩:=h0;refine ay Tryz.func81 V V (aj 1 V (wr 3 [] 4 4 [] [(4,false)] trivial V V λ_=>ab (wro 2 0 [] 5 6 [] [(5,(pT aA 0)),(6,(tX s))] trivial V V λ_=>zc (is_c ts ex r s (.mk (g_ hs V) an)) ?_)));rintro _ H3 ⟨o3,F3,O,E,rfl,rfl⟩;replace E:=hs.bO E;have an:=an.ac O;refine wro 1 3 [] 8 8 [] [(8,(!(isB r s)))] trivial V V λ_=>ai 1 V (zI 1 2 (λU=>?_) λU=>?_)
 ·have c1:=U;refine wr 1 [] 4 4 [] [(4,false)] trivial V V λ_=>ag ⟨.inr V,_,V,_,r,_,_,_,(O),(HS.G9 E),V,M,M,an,(c1.symm),(acc_d c1),(acc_n hts c1),X,M,k_⟩
 have c1:=U;have c2:=isB_lt hts a1 c1;refine sgr 2 9 15 [] [] (Hr_ 3 0 (Ha_ (vi) (Hr_ 7 0 Hn_))) E V V λax H7 al=>wr 1 [] 4 4 [] [(4,true)] trivial V V λ_=>ag ⟨.inr V,_,V,_,(⟨r.l,r.G2+1,_,_⟩:RdrT),_,_,_,(O),(HS.G9 al),V,M,M,an,(c1.symm),(acc_y hts c1),(acc_c c1),X,M,k_⟩
theorem cI{Z al a5}(r:RdrT)(s:List UInt8)(h0:Pr1 H a5 F Z r al R ts):kKt ex 38 [(pT a5 0),(tX s)] H (Po3 F H a5 R λo r'=>o=kwB r s/\(kwB r s=true->r.Gf=false/\isK ts r.G2.toNat s=true/\r'.G2=r.G2+1/\r'.Gf=false)/\(kwB r s=false->r'.G2=r.G2/\r'.Gf=r.Gf/\(r.Gf=false->¬isK ts r.G2.toNat s=true))/\(r'.l=ts)/\(r.G2<=r'.G2/\r'.G2<=(Q ts:Int))/\(r'.E=r.E)):=by
 have⟨hs,ar,bb,bf,bn,hts,a6,bl⟩:=h0;refine ay Tryz.func38 V V (aj 1 V (wr 2 [] 4 4 [] [(4,false)] trivial V V λ_=>ab (zm (pT a5 0) (zc (mF ts ex r (.mk (g_ hs V) ar)) ?_))));rintro _ H2 ⟨t2,F2,T,U,rfl,an,ax,rfl⟩;replace U:=hs.bO U;have ar:=ar.ac T;refine zn U V λb3 H4 aA=>sgo 1 3 1 0 [] [] (Hr_ 3 1 Hn_) aA V V λa3 H5 E=>ai 3 V (bQ 1 8 16 [] [(16,(((nxT r).j !=1)||((nxT r).D.b !=s)))] (Hr_ 1 1 (dj 5 (λ_=>(ql 9 1 (i_ E V) V V)) Hn_)) E V V λ_=>zi 1 2 (λO=>?_) λO=>?_)
 ·try simp only[BS]at O
  have c1:=kwB_f O;refine wr 1 [] 4 4 [] [(4,false)] trivial V V λ_=>ag ⟨.inr V,_,V,_,r,_,_,_,(T),(HS.G9 E),V,M,M,ar,(c1.symm),(acc_d c1),(kac_n hts c1),X,M,k_⟩
 try simp only[BS]at O
 have c1:=kwB_t O;have c2:=kwB_lt hts a6 c1;refine sgr 2 17 23 [] [] (Hr_ 3 0 (Ha_ (vi) (Hr_ 7 0 Hn_))) E V V λa4 H9 a1=>wr 1 [] 4 4 [] [(4,true)] trivial V V λ_=>ag ⟨.inr V,_,V,_,(⟨r.l,r.G2+1,_,_⟩:RdrT),_,_,_,(T),(HS.G9 a1),V,M,M,ar,(c1.symm),(kac_y hts c1),(acc_c c1),X,M,k_⟩
theorem aM{an ax a8}(r:RdrT)(s:List UInt8)(h0:Pr1 H a8 F an r ax R ts):kKt ex 41 [(pT a8 0),(tX s)] H λv H'=> ∃(r':RdrT),∃T,∃(Z:Nat),∃F',F.le F'/\HS (.of H [a8]) F' H' [(rZ a8 r' T Z)] R/\v= .tuple #[]/\in64 r'.G2/\in64 r'.E/\Sr F' T r'.l Z/\(r'.Gf=false->r.G2<r'.G2)/\(r'.l=ts)/\(r.G2<=r'.G2/\r'.G2<=(Q ts:Int))/\(r'.E=r.E)/\(Oc (λn=>i4 ts s r.G2.toNat) r.Gf r.G2 () r'.G2 r'.Gf):=by
 have⟨hs,bw,b3,b4,b7,hts,a9,b6⟩:=h0;refine ay Tryz.func41 V V (aj 1 V (ab (wro 2 0 [] 4 5 [] [(4,(pT a8 0)),(5,(tX s))] trivial V V λ_=>zc (eT ts ex r s (.mk (g_ hs V) bw)) ?_)));rintro _ H2 ⟨o2,a3,a4,a7,F2,al,E,rfl,a5,a6,O,rfl,a1,aA,ba,bb,bf⟩;replace E:=hs.bO E;refine wro 1 3 [] 7 7 [] [(7,(!(isB r s)))] trivial V V λ_=>ai 1 V (zI 0 0 (λU=>?_) λU=>?_)
 ·have bn:=aA U;have q:=(by assumption:isB r s=false->_) U;have q1:=q.1;refine sgr 0 8 10 [] [] (Hr_ 3 0 Hn_) E V V λbl H5 a2=>ao ⟨.inl V,_,V,(⟨_,_,_,true⟩:RdrT),_,_,_,(al),(HS.G9 a2),V,M,M,O,(by(intro h;first|cases h|omega|(dsimp only at h⊢;omega)|(simp at h))),X,X,X,(exp_n a9.1 ⟨q.1,trivial,q.2.2⟩)⟩
 have bt:=a1 U;have q:=(by assumption:isB r s=true->_) U;have q1:=q.2.2.1;refine ao ⟨.inl V,_,V,a3,_,_,_,(al),(HS.G9 E),V,M,M,O,(by(intro h;first|cases h|omega|(dsimp only at h⊢;omega)|(simp at h))),X,X,X,(exp_y a9.1 q)⟩
theorem mH{an aA a4}(r:RdrT)(h0:Pr1 H a4 F an r aA R ts):kKt ex 39 [(pT a4 0)] H λv H'=> ∃(x:List UInt8) (r':RdrT),∃T,∃(Z:Nat),∃F',F.le F'/\HS (.of H [a4]) F' H' [(rZ a4 r' T Z)] R/\v=tX x/\in64 r'.G2/\in64 r'.E/\Sr F' T r'.l Z/\(r'.Gf=false->r.G2<r'.G2)/\(r'.l=ts)/\(r.G2<=r'.G2/\r'.G2<=(Q ts:Int))/\(r'.E=r.E)/\(Oc (λn=>iZ ts r.G2.toNat) r.Gf r.G2 (⟨x⟩:Str) r'.G2 r'.Gf):=by
 have⟨hs,ar,bt,bw,b0,hts,a8,bF⟩:=h0;refine ay Tryz.func39 V V (aj 1 V (wr 3 [] 2 2 [] [(2,(tX []))] trivial V V λ_=>ab (zm (pT a4 0) (zc (atName_c ts ex r (.mk (g_ hs V) ar)) ?_))));rintro _ H2 ⟨o2,F2,U,E,rfl,rfl⟩;replace E:=hs.bO E;have ar:=ar.ac U;refine wro 1 2 [] 5 5 [] [(5,(!(anB r)))] trivial V V λ_=>ai 1 V (zI 1 2 (λc4=>?_) λc4=>?_)
 ·have c1:=c4;refine sgr 2 6 8 [] [] (Hr_ 3 0 Hn_) E V V λa6 H5 a1=>wr 1 [] 2 2 [] [(2,(tX []))] trivial V V λ_=>ag ⟨.inr V,_,V,[],(⟨r.l,r.G2,_,true⟩:RdrT),_,_,_,(U),(HS.G9 a1),V,M,M,ar,(by intro h;first|cases h|omega|(dsimp only;omega)|(simp at h)),X,M,k_,(nam_n hts a8.1 c1)⟩
 have c1:=c4;have c2:=anB_lt hts a8 c1;refine sgr 2 9 15 [] [] (Hr_ 3 0 (Ha_ (vi) (Hr_ 7 0 Hn_))) E V V λa7 H7 O=>?_
 have⟨a5,al⟩:=Sv.Gg (SR.sv ar O);have⟨a2,a3⟩:=Token.fx (al ((r.G2+1)-1).toNat);refine sdr0 1 16 27 [2] [(2,(tX (Y r.l _ _).D.b))] (Hr_ 3 0 (Hr_ 7 0 (Ha_ (vi M) (Ha_ (Sv.ix (SR.sv ar O) M (by(rw[hts];omega))) (Hl_ 11 (ql 9 1 (hc0 (Token.vw (al ((r.G2+1)-1).toNat) (by(rw[hts];omega)))) V V) Hn_))))) O V V V λ_=>ag ⟨.inr V,_,V,_,(⟨r.l,r.G2+1,_,_⟩:RdrT),_,_,_,(U),(HS.G9 O),V,M,M,ar,(by intro h;first|cases h|omega|(dsimp only;omega)|(simp at h)),X,M,k_,(nam_y hts a8.1 c1)⟩
end pa
open pa
namespace pb
theorem ce{b c:Bool}{p:Prop}{i j:Int}(q:b=false/\p/\j=i+1/\c=false)(h:0<=i):i.toNat+1=j.toNat:=by have:=q.2.2.1;omega
theorem Oc.yes{α:Type}{f g:Nat->Rs α}{p:Prop} [Decidable p]{b c E:Bool}{i j O:Int}{x:α}(q:b=false/\p/\j=i+1/\c=false)(h:Oc f c j x O E):Oc (λn=>if p then f n else g n) b i x O E:=Oc.of q.1 ((h.out q.2.2.2).iteT q.2.1)
theorem Oc.no{α:Type}{f g:Nat->Rs α}{p:Prop} [Decidable p]{b c E:Bool}{i j O:Int}{x:α}(q:j=i/\c=b/\(b=false->¬p))(h:Oc g b i x O E):Oc (λn=>if p then f n else g n) b i x O E:=Oc.Gl q.2.2 h
def eA:List (List UInt8×Int×Int×Bool):=[([43],4,6,false),([45],5,6,false),([42],6,7,false),([47],7,7,false),([37],8,7,false)]
def opA(s:List UInt8):Int×Int×Bool:=((eA.find? λq=>decide (s=q.1)).map (·.2)).getD (0,0,false)
abbrev Po4(H:Heap)(Φ:Int->Int->Bool->Prop)(v:Value)(H':Heap):Prop:= ∃(o:Int) (l:Int) (t:Bool),H'=H/\v= .tuple ⟨[iI o,iI l,.bool t]⟩/\Φ o l t
theorem a_8{p:Prop}(h:p:=by(simp_all[opT,opA,opL,eA,List.find?];done)):p:=h
theorem arith_c(ex:FuncId)(s:List UInt8)(H:Heap):kKt ex 142 [(tX s)] H (Po4 H λo l t=>o=(opA s).1/\l=(opA s).2.1/\t=(opA s).2.2):=by
 refine ay Tryz.func142 V V (aj 1 V (wr 3 [] 2 4 [] [(2,(.int _ 0)),(3,(.int _ 0)),(4,false)] trivial V V λ_=>wr 3 [] 5 5 [] [(5,(tX s))] trivial V V λ_=>wr 1 [] 6 7 [] [(6,(s==([43]:List UInt8)))] trivial V V λ_=>zI 1 1 (λU=>?_) λU=>?_))
 ·refine wr 1 [] 2 4 [] [(2,(.int _ 4)),(3,(.int _ 6)),(4,false)] trivial V V λ_=>ag ⟨.inr V,_,V,4,6,_,V,V,(by(simp_all[opT,opA,opL,eA,List.find?];done)),(by(simp_all[opT,opA,opL,eA,List.find?];done)),(by(simp_all[opT,opA,opL,eA,List.find?];done))⟩
 refine wr 1 [] 8 9 [] [(8,(s==([45]:List UInt8)))] trivial V V λ_=>zI 1 1 (λZ=>?_) λZ=>?_
 ·refine wr 1 [] 2 4 [] [(2,(.int _ 5)),(3,(.int _ 6)),(4,false)] trivial V V λ_=>ag ⟨.inr V,_,V,5,6,_,V,V,(by(simp_all[opT,opA,opL,eA,List.find?];done)),(by(simp_all[opT,opA,opL,eA,List.find?];done)),(by(simp_all[opT,opA,opL,eA,List.find?];done))⟩
 refine wr 1 [] 10 11 [] [(10,(s==([42]:List UInt8)))] trivial V V λ_=>zI 1 1 (λE=>?_) λE=>?_
 ·refine wr 1 [] 2 4 [] [(2,(.int _ 6)),(3,(.int _ 7)),(4,false)] trivial V V λ_=>ag ⟨.inr V,_,V,6,7,_,V,V,(by(simp_all[opT,opA,opL,eA,List.find?];done)),(by(simp_all[opT,opA,opL,eA,List.find?];done)),(by(simp_all[opT,opA,opL,eA,List.find?];done))⟩
 refine wr 1 [] 12 13 [] [(12,(s==([47]:List UInt8)))] trivial V V λ_=>zI 1 1 (λO=>?_) λO=>?_
 ·refine wr 1 [] 2 4 [] [(2,(.int _ 7)),(3,(.int _ 7)),(4,false)] trivial V V λ_=>ag ⟨.inr V,_,V,7,7,_,V,V,(by(simp_all[opT,opA,opL,eA,List.find?];done)),(by(simp_all[opT,opA,opL,eA,List.find?];done)),(by(simp_all[opT,opA,opL,eA,List.find?];done))⟩
 refine wr 1 [] 14 15 [] [(14,(s==([37]:List UInt8)))] trivial V V λ_=>zI 1 3 (λT=>?_) λT=>?_
 ·refine wr 1 [] 2 4 [] [(2,(.int _ 8)),(3,(.int _ 7)),(4,false)] trivial V V λ_=>ag ⟨.inr V,_,V,8,7,_,V,V,(by(simp_all[opT,opA,opL,eA,List.find?];done)),(by(simp_all[opT,opA,opL,eA,List.find?];done)),(by(simp_all[opT,opA,opL,eA,List.find?];done))⟩
 refine wr 1 [] 2 4 [] [(2,(.int _ 0)),(3,(.int _ 0)),(4,false)] trivial V V λ_=>ag ⟨.inr V,_,V,0,0,_,V,V,(by(simp_all[opT,opA,opL,eA,List.find?];done)),(by(simp_all[opT,opA,opL,eA,List.find?];done)),(by(simp_all[opT,opA,opL,eA,List.find?];done))⟩
theorem arith_c_q(ex:FuncId)(s:List UInt8)(H:Heap):kKt ex 142 [(tX s)] H λv H'=>v=(.tuple ⟨[((opA s).1),((opA s).2.1),((opA s).2.2)]⟩)/\H'=H:=
 cq (arith_c ex s H) (by rintro _ _ ⟨_,_,_,rfl,rfl,rfl,rfl,rfl⟩;exact⟨V,V⟩)
theorem operator_c(ex:FuncId)(s:List UInt8)(H:Heap):kKt ex 136 [(tX s)] H (Po4 H λo l t=>o=(opT s).1/\l=(opT s).2.1/\t=(opT s).2.2):=by
 refine ay Tryz.func136 V V (aj 1 V (wr 3 [] 2 4 [] [(2,(.int _ 0)),(3,(.int _ 0)),(4,false)] trivial V V λ_=>wr 3 [] 5 5 [] [(5,(tX s))] trivial V V λ_=>wr 1 [] 6 7 [] [(6,(s==([124]:List UInt8)))] trivial V V λ_=>zI 1 1 (λc4=>?_) λc4=>?_))
 ·refine wr 1 [] 2 4 [] [(2,(.int _ 10)),(3,(.int _ 0)),(4,false)] trivial V V λ_=>ag ⟨.inr V,_,V,10,0,_,V,V,(by(simp_all[opT,opA,opL,eA,List.find?];done)),(by(simp_all[opT,opA,opL,eA,List.find?];done)),(by(simp_all[opT,opA,opL,eA,List.find?];done))⟩
 refine wr 1 [] 8 9 [] [(8,(s==([94]:List UInt8)))] trivial V V λ_=>zI 1 1 (λc7=>?_) λc7=>?_
 ·refine wr 1 [] 2 4 [] [(2,(.int _ 11)),(3,(.int _ 1)),(4,false)] trivial V V λ_=>ag ⟨.inr V,_,V,11,1,_,V,V,(by(simp_all[opT,opA,opL,eA,List.find?];done)),(by(simp_all[opT,opA,opL,eA,List.find?];done)),(by(simp_all[opT,opA,opL,eA,List.find?];done))⟩
 refine wr 1 [] 10 11 [] [(10,(s==([38]:List UInt8)))] trivial V V λ_=>zI 1 1 (λE=>?_) λE=>?_
 ·refine wr 1 [] 2 4 [] [(2,(.int _ 9)),(3,(.int _ 2)),(4,false)] trivial V V λ_=>ag ⟨.inr V,_,V,9,2,_,V,V,(by(simp_all[opT,opA,opL,eA,List.find?];done)),(by(simp_all[opT,opA,opL,eA,List.find?];done)),(by(simp_all[opT,opA,opL,eA,List.find?];done))⟩
 refine wr 1 [] 12 13 [] [(12,(s==([61,61]:List UInt8)))] trivial V V λ_=>zI 1 1 (λO=>?_) λO=>?_
 ·refine wr 1 [] 2 4 [] [(2,(.int _ 15)),(3,(.int _ 3)),(4,false)] trivial V V λ_=>ag ⟨.inr V,_,V,15,3,_,V,V,(by(simp_all[opT,opA,opL,eA,List.find?];done)),(by(simp_all[opT,opA,opL,eA,List.find?];done)),(by(simp_all[opT,opA,opL,eA,List.find?];done))⟩
 refine wr 1 [] 14 15 [] [(14,(s==([33,61]:List UInt8)))] trivial V V λ_=>zI 1 1 (λT=>?_) λT=>?_
 ·refine wr 1 [] 2 4 [] [(2,(.int _ 16)),(3,(.int _ 3)),(4,false)] trivial V V λ_=>ag ⟨.inr V,_,V,16,3,_,V,V,(by(simp_all[opT,opA,opL,eA,List.find?];done)),(by(simp_all[opT,opA,opL,eA,List.find?];done)),(by(simp_all[opT,opA,opL,eA,List.find?];done))⟩
 refine wr 1 [] 16 17 [] [(16,(s==([60]:List UInt8)))] trivial V V λ_=>zI 1 1 (λU=>?_) λU=>?_
 ·refine wr 1 [] 2 4 [] [(2,(.int _ 17)),(3,(.int _ 4)),(4,false)] trivial V V λ_=>ag ⟨.inr V,_,V,17,4,_,V,V,(by(simp_all[opT,opA,opL,eA,List.find?];done)),(by(simp_all[opT,opA,opL,eA,List.find?];done)),(by(simp_all[opT,opA,opL,eA,List.find?];done))⟩
 refine wr 1 [] 18 19 [] [(18,(s==([60,61]:List UInt8)))] trivial V V λ_=>zI 1 1 (λZ=>?_) λZ=>?_
 ·refine wr 1 [] 2 4 [] [(2,(.int _ 18)),(3,(.int _ 4)),(4,false)] trivial V V λ_=>ag ⟨.inr V,_,V,18,4,_,V,V,(by(simp_all[opT,opA,opL,eA,List.find?];done)),(by(simp_all[opT,opA,opL,eA,List.find?];done)),(by(simp_all[opT,opA,opL,eA,List.find?];done))⟩
 refine wr 1 [] 20 21 [] [(20,(s==([62]:List UInt8)))] trivial V V λ_=>zI 1 1 (λal=>?_) λal=>?_
 ·refine wr 1 [] 2 4 [] [(2,(.int _ 17)),(3,(.int _ 4)),(4,true)] trivial V V λ_=>ag ⟨.inr V,_,V,17,4,_,V,V,(by(simp_all[opT,opA,opL,eA,List.find?];done)),(by(simp_all[opT,opA,opL,eA,List.find?];done)),(by(simp_all[opT,opA,opL,eA,List.find?];done))⟩
 refine wr 1 [] 22 23 [] [(22,(s==([62,61]:List UInt8)))] trivial V V λ_=>zI 1 1 (λan=>?_) λan=>?_
 ·refine wr 1 [] 2 4 [] [(2,(.int _ 18)),(3,(.int _ 4)),(4,true)] trivial V V λ_=>ag ⟨.inr V,_,V,18,4,_,V,V,(by(simp_all[opT,opA,opL,eA,List.find?];done)),(by(simp_all[opT,opA,opL,eA,List.find?];done)),(by(simp_all[opT,opA,opL,eA,List.find?];done))⟩
 refine wr 1 [] 24 25 [] [(24,(s==([60,60]:List UInt8)))] trivial V V λ_=>zI 1 1 (λax=>?_) λax=>?_
 ·refine wr 1 [] 2 4 [] [(2,(.int _ 12)),(3,(.int _ 5)),(4,false)] trivial V V λ_=>ag ⟨.inr V,_,V,12,5,_,V,V,(by(simp_all[opT,opA,opL,eA,List.find?];done)),(by(simp_all[opT,opA,opL,eA,List.find?];done)),(by(simp_all[opT,opA,opL,eA,List.find?];done))⟩
 refine wr 1 [] 26 27 [] [(26,(s==([62,62]:List UInt8)))] trivial V V λ_=>zI 1 1 (λaA=>?_) λaA=>?_
 ·refine wT 1 [] 2 4 [] [(2,(iI 14)),(3,(iI 5)),(4,false)] V λ_=>ag ⟨.inr V,_,V,14,5,false,V,V,(by(simp_all[opT,opA,opL,eA,List.find?];done)),(by(simp_all[opT,opA,opL,eA,List.find?];done)),(by(simp_all[opT,opA,opL,eA,List.find?];done))⟩
 refine wT 1 [] 28 29 [] [(28,(s==([62,62,62]:List UInt8)))] V λ_=>zI 1 3 (λa1=>?_) λa1=>?_
 ·refine wT 1 [] 2 4 [] [(2,(iI 13)),(3,(iI 5)),(4,false)] V λ_=>ag ⟨.inr V,_,V,13,5,false,V,V,(by(simp_all[opT,opA,opL,eA,List.find?];done)),(by(simp_all[opT,opA,opL,eA,List.find?];done)),(by(simp_all[opT,opA,opL,eA,List.find?];done))⟩
 refine wU 1 [(1,.o (.tuple ⟨[((opA s).1),((opA s).2.1),((opA s).2.2)]⟩))] 30 34 [2,3,4] [(2,((opA s).1)),(3,((opA s).2.1)),(4,((opA s).2.2))] (arith_c_q ex s H) V λ_=>ag ⟨.inr V,_,V,(opA s).1,(opA s).2.1,(opA s).2.2,V,V,(by(simp_all[opT,opA,opL,eA,List.find?];done)),(by(simp_all[opT,opA,opL,eA,List.find?];done)),(by(simp_all[opT,opA,opL,eA,List.find?];done))⟩
theorem operator_c_q(ex:FuncId)(s:List UInt8)(H:Heap):kKt ex 136 [(tX s)] H λv H'=>v=(.tuple ⟨[((opT s).1),((opT s).2.1),((opT s).2.2)]⟩)/\H'=H:=
 cq (operator_c ex s H) (by rintro _ _ ⟨_,_,_,rfl,rfl,rfl,rfl,rfl⟩;exact⟨V,V⟩)
variable (ts:List Token)
variable (ex:FuncId) {F:Fz} {H:Heap} {R:List Fp}
theorem nxT_tok{ts:List Token}{r:RdrT}(E:r.l=ts)(h:(nxT r).j≠0):r.Gf=false/\r.G2<(Q ts:Int)/\nxT r=Y ts r.G2.toNat default:=by
 unfold nxT at h⊢;by_cases k:r.Gf=true\/(Q r.l:Int)<=r.G2
 ·rw[if_pos k]at h;exact absurd V h
 rw[if_neg k,E];rw[E]at k;exact⟨by cases e:r.Gf with|false=>rfl|true=>exact absurd (.inl e) k,M,rfl⟩
theorem nm_y{ts:List Token}{r:RdrT}(U:r.l=ts)(h:(nxT r).j=2):r.Gf=false/\r.G2<(Q ts:Int)/\nxT r=Y ts r.G2.toNat default/\isM ts r.G2.toNat=true:=by have⟨O,T,E⟩:=nxT_tok U (by rw[h];decide);exact⟨O,T,E,by unfold isM;rw[←E];exact decide_eq_true h⟩
theorem nm_n{ts:List Token}{r:RdrT}(E:r.l=ts)(h:(nxT r).j≠2)(hb:r.Gf=false): ¬isM ts r.G2.toNat=true:=λk=>by unfold isM at k;rw[decide_eq_true_eq]at k;refine h ?_;rw[nK,if_neg (by rw[hb];decide),E];exact k
def tx(ts:List Token)(i:Nat):List UInt8:=(Y ts i default).D.b
theorem sma_n{ts:List Token}{r:RdrT}{x:Int}(O:r.l=ts)(E:0<=r.G2)(h:((nxT r).j≠2\/(bu (nxT r).D.b).isSome=false)\/1000000<(bu (nxT r).D.b).getD 0):Oc (λ_=>i7 ts r.G2.toNat) r.Gf r.G2 x r.G2 true:=⟨λ_=>⟨V,V⟩,λhb=>by
 have e:nxT r=ts.getD r.G2.toNat default:=by rw[nK,if_neg (by rw[hb];decide),O]
 rw[e]at h;unfold i7;rw[if_neg (λk=>?_)]
 ·exact .fail M
 rw[a04,a04,decide_eq_true_eq]at k;rcases h with(h|h)|h
 ·exact h (of_decide_eq_true k.1.1)
 ·exact absurd (k.1.2.symm.trans h) e_
 exact absurd k.2 (by show ¬(bu _).getD 0<=_;omega)⟩
theorem sma_y{ts:List Token}{r:RdrT}(hl:r.l=ts)(U:0<=r.G2)(h:((nxT r).j=2/\(bu (nxT r).D.b).isSome=true)/\¬1000000<(bu (nxT r).D.b).getD 0):Oc (λ_=>i7 ts r.G2.toNat) r.Gf r.G2 ((bu (nxT r).D.b).getD 0) (r.G2+1) r.Gf:=by have⟨E,Z,O,T⟩:=nm_y hl h.1.1;refine Oc.of E ?_;unfold i7;rw[O]at h⊢;rw[if_pos (by rw[a04,a04,decide_eq_true_eq];exact⟨⟨T,h.1.2⟩,Int.not_lt.1 h.2⟩),E];exact .val M
theorem sm_lt{ts:List Token}{r:RdrT}(E:r.l=ts)(h:((nxT r).j=2/\(bu (nxT r).D.b).isSome=true)/\¬1000000<(bu (nxT r).D.b).getD 0):r.G2<(ts.length:Int):=(nm_y E h.1.1).2.1
theorem er{s:List UInt8}:in64 ((bu s).getD 0):=by
 unfold bu posS;split
 ·split
  ·decide
  ·next h=>split at h<;>simp_all;constructor<;>omega
  decide
 split
 ·next h=>split at h<;>simp_all;constructor<;>omega
 decide
def acB(ts:List Token)(r:RdrT):Bool:=anB r&&isS ts (r.G2.toNat+1) [40]
theorem ac_n{ts:List Token}{r:RdrT}(E:r.l=ts)(ha:0<=r.G2/\r.G2<=(Q ts:Int))(h:anB r=false\/(Q r.l:Int)<=r.G2+1):acB ts r=false:=by
 unfold acB;rcases h with h|h
 ·rw[h];rfl
 unfold isS;rw[E]at h;rw[bW (show Q ts<=r.G2.toNat+1 by omega)];cases anB r<;>rfl
theorem acx{ts:List Token}{r:RdrT}(E:r.l=ts)(h:anB r=true/\¬(Q r.l:Int)<=r.G2+1):r.G2+1<(Q ts:Int):=by have:=h.2;rw[E]at this;omega
theorem ac_y{ts:List Token}{r:RdrT}(O:r.l=ts)(E:0<=r.G2)(h:anB r=true/\¬(Q r.l:Int)<=r.G2+1):((Y r.l (r.G2+1).toNat default).j==3&&(Y r.l (r.G2+1).toNat default).D.b==[40])=acB ts r:=by unfold acB isS;rw[h.1,O,show(r.G2+1).toNat=r.G2.toNat+1 by omega,a1b,a0M];simp
theorem negative_c(s:List UInt8)(H:Heap)(E:s.length<=1000000):kKt ex 140 [(tX s)] H λv H'=> ∃(o:Int),H'=H/\v=iI o/\o=(bu (45::s)).getD 0:=by refine ay Tryz.func140 V V (aj 1 V (wr 2 [] 2 2 [] [(2,(.int _ 0))] trivial V V λ_=>wr 2 [(2,.o (.tuple ⟨[(.int _ _),(.bool (bu ([45]++s)).isSome)]⟩))] 5 10 [3,4] [(3,(.int _ _))] (vA (show([45]:List UInt8).length+(s:List UInt8).length<=1099511627776 from by(have:([45]:List UInt8).length=1:=rfl;omega)) (vA (w3.mB ex _ H) trivial)) V V λ_=>wr 1 [] 2 2 [11] [(2,(.int _ _))] trivial V V λ_=>ag ⟨.inr V,_,V,_,V,V,k_⟩))
theorem negative_c_q(s:List UInt8)(H:Heap)(E:s.length<=1000000):kKt ex 140 [(tX s)] H λv H'=>v=(iI ((bu (45::s)).getD 0))/\H'=H:=
 cq (negative_c ex s H E) (by rintro _ _ ⟨_,rfl,rfl,rfl⟩;exact⟨V,V⟩)
theorem atCall_c{U al a2}(r:RdrT)(h0:pa.Pr1 H a2 F U r al R ts):kKt ex 133 [(pT a2 0)] H (pa.Po2 F H a2 U r al R (acB ts r)):=by
 have⟨hs,ar,b1,b2,b4,hts,a8,b3⟩:=h0;refine ay Tryz.func133 V V (aj 1 V (wr 3 [] 2 2 [] [(2,false)] trivial V V λ_=>dq 4 19 [] [(19,((!(anB r))||(decide ((Q r.l:Int)<=r.G2+1))))] (λH'=> ∃F',F.le F'/\HS (Base.of H [a2]) F' H' [(rZ a2 r U al)] R) ?_ ?_))
 ·refine az V (zfm (pT a2 0) (wcD [a2] (j:=0) hs V V (pa.atName_c ts ex r (.mk (HS.Gh hs.G5 (i:=0) V) ar M M M M M M)) V V (kb V) ?_));rintro _ H4 ⟨o4,F4,ax,O,rfl,rfl⟩;refine⟨_,_,_,O,λba O=>?_⟩;have ar:=ar.ac ax;refine wfv (bY V) (zfm (.bool (!(anB r))) (wf_gsF V V (λE=>?_) (λE=>?_)))
  ·have aA:=E;try simp only[BS]at aA
   refine zfm _ (eg V E (wfv (jH V) (eg V E (zp 1 (eg V E ?_)))));refine zl 1 (HS.hc O.G5 (i:=0) V) (eg V E (wfv (iC V V (lA (n:=r.G2+1) M)) (eg V E (zfm (pT a2 0) (eg V E ?_)))));refine wfv (jH V) (eg V E (zp 0 (eg V E (zl 0 (HS.hc O.G5 (i:=0) V) (eg V E ?_)))));refine bh (gY V V (SR.sv ar O.G5)) V V (mS V) (lC _) (eg V E (wfv (bK V V V V) (wfv (v:=(.bool (decide ((Q r.l:Int)<=r.G2+1)))) (aH V E V) (fE ?_))));exact ao ⟨V,⟨_,(fT fR ax),HS.sub O (List.Sublist.refl _)⟩,(by repeat' first|exact Lr|refine Lu V ?_),(agC (congrArg _ (show(decide ((Q r.l:Int)<=r.G2+1))=((!(anB r))||(decide ((Q r.l:Int)<=r.G2+1))) by simp only[↓E,BT])) agN)⟩
  have aA:=E;try simp only[BS]at aA
  refine eh V E V (eh V E V (eh V E V (eh V E V (eh V E V (eh V E V ?_)))));refine eh V E V (eh V E V (eh V E V (eh V E V (wfv (v:=(.bool true)) (aq V E V) (fE ?_)))));exact ao ⟨V,⟨_,(fT fR ax),HS.sub O (List.Sublist.refl _)⟩,(by repeat' first|exact Lr|refine Lu V ?_),(agC (congrArg _ (show true=((!(anB r))||(decide ((Q r.l:Int)<=r.G2+1))) by simp only[↓E,BT])) agN)⟩
 skip;rintro g3 H3 ⟨F3,an,T⟩;have ar:=ar.ac an;refine aj 1 V (zI 1 2 (λc6=>?_) λc6=>?_)
 ·have c1:=c6;refine wr 1 [] 2 2 [] [(2,false)] trivial V V λ_=>ag ⟨.inr V,_,V,_,_,(an),(HS.G9 T),V,(ac_n hts a8 c1).symm⟩
 have c1:=c6;have c2:=acx hts c1;refine az V ?_;have⟨bf,a1⟩:=Sv.Gg (SR.sv ar T);have⟨a5,a6⟩:=Token.fx (a1 (r.G2+1).toNat);refine cC 11 20 30 [] [(30,(aG [_,_,_]))] (Hr_ 3 0 (Hr_ 7 0 (Ha_ (vi) (Ha_ (Sv.ix (SR.sv ar T)) (Hl_ 10 (qn 112 0 3 (hc0 (Token.vw (a1 (r.G2+1).toNat) M)) V V V V) Hn_))))) T V V λ_=>znD T V λbb a4 a3=>sdo 1 1 0 [] [] (Hr_ 12 1 Hn_) a3 V V λa7 a9 Z=>aQ 2 V (bQ 1 31 38 [2] [(2,(((Y r.l _ _).j==3)&&((Y r.l _ _).D.b==([40]:List UInt8))))] (Hr_ 1 1 (dj 5 (λ_=>(ql 9 1 (i_ Z V) V V)) Hn_)) Z V V λ_=>ag ⟨.inr V,_,V,_,_,(an),(HS.G9 Z),V,(ac_y hts a8.1 c1)⟩)
theorem small_c{al aA a5}(r:RdrT)(h0:pa.Pr1 H a5 F al r aA R ts):kKt ex 40 [(pT a5 0)] H λv H'=> ∃(x:Int) (r':RdrT),∃O,∃(Z:Nat),∃F',F.le F'/\HS (.of H [a5]) F' H' [(rZ a5 r' O Z)] R/\v=iI x/\in64 r'.G2/\in64 r'.E/\Sr F' O r'.l Z/\(in64 x)/\(r'.l=ts)/\(r.G2<=r'.G2/\r'.G2<=(ts.length:Int))/\(r'.E=r.E)/\(Oc (λn=>i7 ts r.G2.toNat) r.Gf r.G2 x r'.G2 r'.Gf):=by
 have⟨hs,an,b1,b2,b5,hts,a7,b4⟩:=h0;refine ay Tryz.func40 V V (aj 1 V (wr 2 [] 2 2 [] [(2,(.int _ 0))] trivial V V λ_=>ab (zm (pT a5 0) (zc (pa.mF ts ex r (.mk (g_ hs V) an M M M M M M)) ?_))));rintro _ H2 ⟨t2,F2,T,U,rfl,a1,a2,rfl⟩;replace U:=hs.bO U;have an:=an.ac T;refine zn U V λb3 H4 a3=>sgo 1 3 1 0 [] [] (Hr_ 3 1 Hn_) a3 V V λa9 H5 E=>ai 2 V (bQ 3 8 13 [4,5] [(4,(.int _ _)),(5,(.bool (bu (nxT r).D.b).isSome))] (Hr_ 1 1 (Hc_ 2 (w3.mB ex _ H5) Hn_)) E V V λ_=>bQ 1 14 24 [] [(24,((((nxT r).j !=2)||(!(bu (nxT r).D.b).isSome))||(decide ((1000000:Int)<(bu (nxT r).D.b).getD 0))))] (Hr_ 1 1 Hn_) E V V λ_=>zI 1 2 (λc8=>?_) λc8=>?_)
 ·have c1:=c8;refine sgr 2 25 27 [] [] (Hr_ 3 0 Hn_) E V V λba H9 a4=>wr 1 [] 2 2 [] [(2,(.int _ 0))] trivial V V λ_=>ag ⟨.inr V,_,V,0,(⟨r.l,r.G2,_,true⟩:RdrT),_,_,_,(T),(HS.G9 a4),V,M,M,an,e_,X,M,k_,(sma_n hts a7.1 c1)⟩
 have c1:=c8;have c2:=sm_lt hts c1;refine sgr 2 28 34 [] [] (Hr_ 3 0 (Ha_ (vi) (Hr_ 7 0 Hn_))) E V V λa6 a8 ax=>wr 1 [] 2 2 [35] [(2,(.int _ _))] trivial V V λ_=>ag ⟨.inr V,_,V,_,(⟨r.l,r.G2+1,_,_⟩:RdrT),_,_,_,(T),(HS.G9 ax),V,M,M,an,(er),X,M,k_,(sma_y hts a7.1 c1)⟩
theorem names_c{b7 c4 bl}(r:RdrT)(h0:pa.Pr1 H bl F b7 r c4 R ts):kKt ex 83 [(pT bl 0)] H λv H'=> ∃ax,∃(kx:Nat) (x:List Str) (r':RdrT),∃a2,∃(bb:Nat),∃F',F.le F'/\HS (.of H [bl]) F' H' [(rZ bl r' a2 bb)] R/\v=sL ax (Q x) kx/\Sr F' ax x kx/\in64 r'.G2/\in64 r'.E/\Sr F' a2 r'.l bb/\(r'.l=ts)/\(r.G2<=r'.G2/\r'.G2<=(Q ts:Int))/\(r'.E=r.E)/\(Oc (λn=>namM ts n r.G2.toNat) r.Gf r.G2 x r'.G2 r'.Gf):=by
 have⟨hs,e2,hr,ht,hA,hts,hy,hz⟩:=h0;refine ay Tryz.func83 V V (aj 1 V (wr 2 [] 2 2 [] [(2,(sL _ 0 0))] trivial V V λ_=>ab (zm (pT bl 0) (zc (pa.mH ts ex r (.mk (g_ hs V) e2)) ?_))));rintro _ H2 ⟨x2,d1,d4,et,F2,c8,a9,rfl,d7,d8,bt,f4,fk,f1,f7,a4⟩;replace a9:=hs.bO a9;refine zlo _ a9 V (RL.cs V RL.nl) V λa3 k3 p3 H4 c9 dk=>za _ (ai 3 V (ak (λ(mm:Nat) f H'=> ∃(l:List Str) (rr:RdrT),∃Z,∃(al:Nat),∃an O,∃(T:Nat),∃F',F2.le F'/\HS _ F' H' [[(bl,.cells [(S_ O rr.l T),(.int _ rr.G2),(.int _ rr.E),rr.Gf] _ _)],an] R/\OZ F' Z l al an/\Sr F' O rr.l T/\aI f [(0,(pT bl 0)),(3,(S_ Z l al))]/\mm=Q ts-rr.G2.toNat/\(rr.l=ts)/\(r.G2<=rr.G2/\rr.G2<=(Q ts:Int))/\(rr.E=r.E)/\((Q l:Int)<=rr.G2+1)/\(∀x i9 b9,Oc (λn=>namL ts n l rr.G2.toNat) rr.Gf rr.G2 x i9 b9->Oc (λn=>namM ts n _) _ _ x i9 b9)) _ ⟨_,d1,a3,k3,p3,_,_,_,fR,dk,c9,bt,f_,V,M,M,M,(by(have:Q ([(⟨x2⟩:Str)]:List Str)=1:=rfl);omega),(by intro x9 i9 b9 h9;unfold namM;(try dsimp only at a4);first|exact a4|(refine Oc.seq a4 ?_;exact h9))⟩ ?_))
 rintro g4 f5 H5 ⟨l,rr,Z,al,an,O,T,F5,b0,b3,E,a1,b2,rfl,go,g0,g1,g2,hw⟩ dn;refine aw _ b2 (λ_=>?_);clear b2;refine aj 2 V (ab (zm (pT bl 0) (zc (pa.eT ts ex rr _ (.mk (g_ b3 V) a1)) ?_)));rintro _ H6 ⟨o6,b6,d5,ez,F6,a7,aA,rfl,d9,ea,U,rfl,c6,c5,fq,f2,f9⟩;replace aA:=b3.bO aA;have E:=E.ac a7;refine ai 1 V (zI 2 5 (λc7=>?_) λc7=>?_)
 ·have b5:=c6 c7;refine ab (wro 2 0 [] 9 10 [] [(9,(sL _ _ _)),(10,(pT bl 0))] trivial V V λ_=>zc (pa.mH ts ex b6 (.mk (g_ aA V) U)) ?_);rintro _ H9 ⟨x9,d2,d6,e0,F9,b1,ba,rfl,ee,em,bw,f6,fu,f3,gm,a5⟩;replace ba:=aA.bO ba;have E:=E.ac b1;refine zlo _ ba V (RL.cs V RL.nl) V λfi g3 g5 fb ci a8=>zao 1 E a8 (OS.sv ci a8 (i:=2) V) V V V M λbF b4 dt fd co c0=>za (sL bF _ b4) (ai 2 V ?_)
  refine dn _ _ _ ?_ ⟨_,d2,bF,b4,dt,_,_,_,(fT (fT (b0) a7) b1),(HS.sub c0 (a06 _ _)),co,bw,f_,V,M,M,M,(by(try rw[a00,a0v]);omega),(by intro x9 i9 b9 h9;refine hw _ _ _ ?_;refine Oc.Gj ?_ (λ_=>namL.eq_2 ..);refine Oc.yes b5 ?_;rw[ce b5 M];(try dsimp only at a5);first|exact a5|(refine Oc.seq a5 ?_;exact h9))⟩;omega
 have bf:=c5 c7;refine wr 1 [] 2 2 [14] [(2,(sL _ _ _))] trivial V V λ_=>?_
 have⟨e8,a6,c3,cL,e4⟩:=OS.Gi E aA (i:=1) V;have U:=U.ac a6;refine ag ⟨.inr V,_,V,_,_,l,b6,_,_,_,(fT (fT (fT (c8) b0) a7) a6),(HS.G9 c3),V,cL,M,M,U,M,M,M,(by(refine hw _ _ _ ?_;refine Oc.Gj ?_ (λ_=>namL.eq_2 ..);refine Oc.no bf ?_;rw[←bf.1,←bf.2.1];exact Oc.val M (λ_=>by rfl)))⟩
end pb
open pb
namespace pc
theorem Oc.yesF{α:Type}{f g:Nat->Rs α}{p:Prop} [Decidable p]{b c E:Bool}{i j O:Int}{x:α}(q:b=false/\¬p/\j=i+1/\c=false)(h:Oc g c j x O E):Oc (λn=>if p then f n else g n) b i x O E:=Oc.of q.1 ((h.out q.2.2.2).Gl q.2.1)
theorem Oc.done{α:Type}{x y:α}{b E:Bool}{i T:Int}{m:Nat}(hb:b=false)(O:E=false)(e:T=(m:Int))(U:y=x):Oc (λ_=> .ok (x,m)) b i y T E:=Oc.of hb (by rw[O,U];exact .val e)
theorem op_all: ∀q∈opL,q.2.2.1<=7:=by decide
theorem op_le(s:List UInt8):(opT s).2.1<=7:=by
 unfold opT;cases e:opL.find? λq=>decide (s=q.1) with
 |none=>decide
 |some q=>exact op_all q (List.mem_of_find?_eq_some e)
theorem op_all2: ∀q∈opL,0<=q.2.1/\q.2.1<=20:=by decide
theorem op_in(s:List UInt8):in64 (opT s).1:=by
 have:0<=(opT s).1/\(opT s).1<=20:=by
  unfold opT;cases e:opL.find? λq=>decide (s=q.1) with
  |none=>decide
  |some q=>exact op_all2 q (List.mem_of_find?_eq_some e)
 omega
theorem op_n{ts:List Token}{r:RdrT}{k:Nat}(E:r.l=ts)(h:((nxT r).j≠3\/(opT (nxT r).D.b).1=0)\/(opT (nxT r).D.b).2.1≠(k:Int))(hb:r.Gf=false):opK ts k r.G2.toNat=0:=by
 have e:nxT r=Y ts r.G2.toNat default:=by rw[nK,if_neg (by rw[hb];decide),E]
 rw[e]at h;unfold opK;split
 ·next q=>
  rw[a04,decide_eq_true_eq,decide_eq_true_eq]at q;rcases h with(h|h)|h
  ·exact absurd q.1 h
  ·exact h
  exact absurd q.2 h
 rfl
theorem op_y{ts:List Token}{r:RdrT}{i:Int}{k:Nat}(hl:r.l=ts)(U:0<=i)(Z:i<=r.G2)(h:((nxT r).j=3/\(opT (nxT r).D.b).1≠0)/\(opT (nxT r).D.b).2.1=(k:Int)):r.Gf=false/\¬opK ts k r.G2.toNat=0/\r.G2<(Q ts:Int)/\nxT r=Y ts r.G2.toNat default/\k<=7:=by
 have⟨O,T,E⟩:=nxT_tok hl (by rw[h.1.1];decide);refine⟨O,?_,T,E,?_⟩
 ·rw[E]at h;unfold opK;rw[if_pos (by rw[a04,decide_eq_true_eq,decide_eq_true_eq];exact⟨h.1.1,h.2⟩)];exact h.1.2
 have:=op_le (nxT r).D.b;omega
theorem pri_n{ts:List Token}{r:RdrT}{i:Nat}(e:nxT r=Y ts i default)(h:(bu (nxT r).D.b).isSome=false): ¬(numV ts i).isSome=true:=by unfold numV;rw[←e,h];decide
theorem pri_y{ts:List Token}{r:RdrT}{i:Nat}(e:nxT r=Y ts i default)(h:(bu (nxT r).D.b).isSome=true):(numV ts i).isSome=true:=by unfold numV;rw[←e];exact h
theorem mkB_f{ts:List Token}{r:RdrT}{i:Nat}{a b:ExpT}(e:nxT r=Y ts i default)(h:(opT (nxT r).D.b).2.2=false):mkB ts i a b=⟨4,0,⟨[]⟩,(opT (nxT r).D.b).1,[a,b]⟩:=by unfold mkB;rw[←e,h];rfl
theorem mkB_t{ts:List Token}{r:RdrT}{i:Nat}{a b:ExpT}(e:nxT r=Y ts i default)(h:(opT (nxT r).D.b).2.2=true):mkB ts i a b=⟨4,0,⟨[]⟩,(opT (nxT r).D.b).1,[b,a]⟩:=by unfold mkB;rw[←e,h];rfl
variable (ts:List Token)
variable (ex:FuncId) {F:Fz} {H:Heap} {R:List Fp}
abbrev Po5(F:Fz)(H:Heap)(b_r:Nat)(R:List Fp)(Φ:ExpT->RdrT->Prop)(v:Value)(H':Heap):Prop:= ∃(x:ExpT),∃ax_4,∃(kx_4:Nat) (r':RdrT),∃am_0,∃(km_0:Nat),∃F',F.le F'/\HS (.of H [b_r]) F' H' [[(b_r,.cells [(sL am_0 (Q r'.l) km_0),(iI r'.G2),(iI r'.E),(.bool r'.Gf)] none false)]] R/\v= .agg ⟨[iI x.j,iI x.n,tX x.pp.b,iI x.op,sL ax_4 (Q x.I) kx_4]⟩/\in64 x.j/\in64 x.n/\in64 x.op/\SR F' (sL ax_4 (Q x.I) kx_4) x.I/\in64 r'.G2/\in64 r'.E/\SR F' (sL am_0 (Q r'.l) km_0) r'.l/\Φ x r'
def nh(ex:FuncId)(N:Nat):Prop:=
 (∀{T:Option Addr} {U:Nat} {O:Nat} (r:RdrT) {F:Fz} {H:Heap} {R:List Fp} (Z:pa.Pr1 H O F T r U R ts) (hm:12 *(Q ts-r.G2.toNat)+11<N),C Tryz.prog 0 (KX ex) 85 [(pT O 0)] H (Po5 F H O R λx E=>(E.l=ts)/\(r.G2<=E.G2/\E.G2<=(Q ts:Int))/\(E.E=r.E)/\(Oc (λn=>ev ts n r.G2.toNat) r.Gf r.G2 x E.G2 E.Gf)))/\
 (∀{T:Option Addr} {U:Nat} {O:Nat} (r:RdrT) (k:Nat) {F:Fz} {H:Heap} {R:List Fp} (Z:pa.Pr1 H O F T r U R ts) (hk:k<=8) (hm:12 *(Q ts-r.G2.toNat)+(10-k)<N),C Tryz.prog 0 (KX ex) 120 [(pT O 0),(iI (k:Int))] H (Po5 F H O R λx E=>(E.l=ts)/\(r.G2<=E.G2/\E.G2<=(Q ts:Int))/\(E.E=r.E)/\(Oc (λn=>binM ts n k r.G2.toNat) r.Gf r.G2 x E.G2 E.Gf)))/\
 (∀{T:Option Addr} {U:Nat} {O:Nat} (r:RdrT) {F:Fz} {H:Heap} {R:List Fp} (Z:pa.Pr1 H O F T r U R ts) (hm:12 *(Q ts-r.G2.toNat)+1<N),C Tryz.prog 0 (KX ex) 135 [(pT O 0)] H (Po5 F H O R λx E=>(E.l=ts)/\(r.G2<=E.G2/\E.G2<=(Q ts:Int))/\(E.E=r.E)/\(Oc (λn=>jM ts n r.G2.toNat) r.Gf r.G2 x E.G2 E.Gf)))/\
 (∀{T:Option Addr} {U:Nat} {O:Nat} (r:RdrT) {F:Fz} {H:Heap} {R:List Fp} (Z:pa.Pr1 H O F T r U R ts) (hm:12 *(Q ts-r.G2.toNat)<N),C Tryz.prog 0 (KX ex) 141 [(pT O 0)] H (Po5 F H O R λx E=>(E.l=ts)/\(r.G2<=E.G2/\E.G2<=(Q ts:Int))/\(E.E=r.E)/\(Oc (λn=>priM ts n r.G2.toNat) r.Gf r.G2 x E.G2 E.Gf)))
theorem expr_c_s{b8 c3 ar}(r:RdrT)(h0:pa.Pr1 H ar F b8 r c3 R ts)(N:Nat)(ih:nh ts ex N)(hm:12 *(Q ts-r.G2.toNat)+11<N+1):kKt ex 85 [(pT ar 0)] H (Po5 F H ar R λx r'=>(r'.l=ts)/\(r.G2<=r'.G2/\r'.G2<=(Q ts:Int))/\(r'.E=r.E)/\(Oc (λn=>ev ts n r.G2.toNat) r.Gf r.G2 x r'.G2 r'.Gf)):=by
 have⟨hs,fz,h7,h8,ie,hts,h9,ia⟩:=h0;refine ay Tryz.func85 V V (aj 1 V (ab (zn hs V λb1 H2 b2=>ai 2 V (ab ?_))));refine zm (pT ar 0) (zc (ih.2.1 r 0 (.mk (g_ b2 V) fz) M M) ?_);rintro _ H3 ⟨x3,fd,f3,b6,e8,f1,F3,b0,bl,rfl,et,ez,e0,E,fi,fk,bF,hx,hz,hB,a2⟩;replace bl:=b2.bO bl;refine zn bl V λb4 H5 e1=>sgo 1 3 1 0 [] [] (Hr_ 3 2 Hn_) e1 V V λhD H6 b3=>ai 3 V (ab (zm (pT ar 0) (zc (pa.eT ts ex b6 _ (.mk (g_ b3 V) bF)) ?_)))
 rintro _ H7 ⟨o7,b7,fb,f2,F7,a9,Z,rfl,fq,fu,a3,rfl,d6,d5,hy,hA,hC⟩;replace Z:=b3.bO Z;have E:=E.ac a9;refine wro 1 2 [] 9 9 [] [(9,(!(isB b6 _)))] trivial V V λ_=>ai 1 V (zI 1 2 (λc9=>?_) λc9=>?_)
 ·have bn:=d5 c9;refine sgr 1 10 10 [] [] (Hr_ 0 2 (Hr_ 1 1 Hn_)) Z V V λg5 ho ba=>ag ⟨.inr V,_,(rC V (bV V V (i_ ba V) V) rN),x3,_,_,b7,_,_,_,(fT (b0) a9),(HS.G9 ba),V,M,M,M,E,M,M,a3,M,M,M,(by(refine Oc.Gj ?_ (λ_=>ev.eq_2 ..);(try dsimp only at a2);refine Oc.seq a2 ?_;refine Oc.no bn ?_;rw[←bn.1,←bn.2.1];exact Oc.val M (λ_=>by rfl)))⟩
 have b5:=d6 c9;refine ab (zm (pT ar 0) (zc (ih.1 b7 (.mk (g_ Z V) a3) M) ?_));rintro _ hp ⟨hG,d3,e6,he,dt,e3,hj,a7,aA,rfl,c4,c5,c6,T,d7,d8,bt,f6,gm,g2,a5⟩;replace aA:=Z.bO aA;refine zn aA V λhw hq co=>sgo 1 3 1 0 [] [] (Hr_ 3 3 Hn_) co V V λg6 hr bb=>ai 2 V (ab (zm (pT ar 0) (zc (pa.aM ts ex _ _ (.mk (g_ bb V) bt)) ?_)))
 rintro _ ht ⟨hf,d1,e4,hk,an,O,rfl,d9,ea,bw,g1,f7,go,g3,a6⟩;replace O:=bb.bO O;refine ai 2 V (az V (cC 3 15 17 [] [(15,(aG [_,_,_,_,_])),(16,(aG [_,_,_,_,_])),(17,(pT ar 0))] (Hr_ 0 2 (Hr_ 1 3 Hn_)) O V V λ_=>wcD [ar] (j:=0) O V V (ih.1 _ (.mk (HS.Gh O.G5 (i:=0) V) bw) M) V V (⟨.inl V,.inr (HS.nin O (i:=3) (j:=0) V V e_ (List.Mem.head _)),.inr (HS.nin O (i:=2) (j:=0) V V e_ (List.Mem.head _)),trivial⟩) ?_));rintro _ hu ⟨hH,d4,e7,hg,d2,e5,hl,ax,a1,rfl,c7,c8,dk,a4,ee,em,U,f9,g0,g4,al⟩;refine⟨_,_,_,a1,λf4 a1=>?_⟩;replace T:=(T.ac an).ac ax;replace E:=((E.ac a7).ac an).ac ax;refine zld _ a1 V (RL.cs (ExpT.mq E) (RL.cs (ExpT.mq T) (RL.cs (ExpT.mq a4) RL.nl))) V λdn e2 hF f5 ch cL=>sdo 2 20 20 [] [] (Hr_ 6 1 Hn_) cL V V λg7 hv bf=>aQ 1 V ?_
 have⟨hn,a8,c0,ci,g9⟩:=OS.Gi ch bf (i:=4) V;have U:=U.ac a8;refine ag ⟨.inr V,_,(rC V (bV V V (i_ bf V) V) rN),(⟨5,0,_,0,_⟩:ExpT),dn,e2,_,_,_,_,(fT (fT (fT (fT (fT (b0) a9) a7) an) ax) a8),(HS.G9 c0),V,M,M,M,ci,M,M,U,M,M,M,(by(refine Oc.Gj ?_ (λ_=>ev.eq_2 ..);(try dsimp only at a2);refine Oc.seq a2 ?_;refine Oc.yes b5 ?_;rw[ce b5 M];(try dsimp only at a5);refine Oc.seq a5 ?_;(try dsimp only at a6);refine Oc.seq a6 ?_;(try dsimp only at al);first|exact al|(refine Oc.seq al ?_;exact Oc.val M (λ_=>by rfl))))⟩
theorem binary_c_s{c8 et a1}(r:RdrT)(k:Nat)(h0:pa.Pr1 H a1 F c8 r et R ts)(hk:k<=8)(N:Nat)(ih:nh ts ex N)(hm:12 *(Q ts-r.G2.toNat)+(10-k)<N+1):kKt ex 120 [(pT a1 0),(k:Int)] H (Po5 F H a1 R λx r'=>(r'.l=ts)/\(r.G2<=r'.G2/\r'.G2<=(Q ts:Int))/\(r'.E=r.E)/\(Oc (λn=>binM ts n k r.G2.toNat) r.Gf r.G2 x r'.G2 r'.Gf)):=by
 have⟨hs,cv,m7,m9,nn,hts,k3,nd⟩:=h0;refine ay Tryz.func120 V V (aj 1 V (ab (zn hs V λb1 H2 ba=>ai 3 V (wr 1 [] 11 12 [] [(12,((k:Int)==8))] trivial V V λ_=>?_))));refine zI 1 2 (λc4=>?_) λc4=>?_
 ·refine ab (zm (pT a1 0) (zc (ih.2.2.1 r (.mk (g_ ba V) cv) M) ?_));rintro _ H5 ⟨x5,g6,hg,g1,g4,hf,F5,fq,b7,rfl,f1,f2,f3,b0,g7,g8,c3,iv,i1,i3,bf⟩;replace b7:=ba.bO b7;refine sgo 1 2 1 0 [] [] (Hr_ 2 1 Hn_) b7 V V λjA H6 c7=>ai 1 V (ag ⟨.inr V,_,(rC V (bV V V (i_ c7 V) V) rN),x5,_,_,g1,_,_,_,(fq),(HS.G9 c7),V,M,M,M,b0,M,M,c3,M,M,M,(by(refine Oc.Gj ?_ (λ_=>binM.eq_2 ..);refine Oc.iteT (λ_=>show k=8 by omega) ?_;(try dsimp only at bf);first|exact bf|(refine Oc.seq bf ?_;exact Oc.val M (λ_=>by rfl))))⟩)
 refine ab (cu 3 0 15 17 [] [(15,(pT a1 0)),(17,(.int _ _))] (Ha_ (vi) Hn_) V V λ_=>zc (ih.2.1 r (k+1) (.mk (g_ ba V) cv) M M) ?_);rintro _ H8 ⟨x8,co,c0,g2,g5,cL,F8,fu,b8,rfl,f4,f5,f6,b2,g9,he,c5,i0,i2,jw,bl⟩;replace b8:=ba.bO b8;refine zn b8 V λb9 hK d3=>sgo 1 5 1 0 [] [] (Hr_ 5 2 Hn_) d3 V V λhn hQ d4=>ai 2 V (ak (λ(mm:Nat) f H'=> ∃(a:ExpT) (rr:RdrT),∃U,∃(an:Nat),∃Z,∃(ax:Nat),∃F',F8.le F'/\HS _ F' H' [[(a1,.cells [(S_ U rr.l an),(.int _ rr.G2),(.int _ rr.E),rr.Gf] _ _)],[(b1,.cells [_,_,(tX []),_,_] _ _)],[(b9,.cells [(.int _ a.j),(.int _ a.n),(tX a.pp.b),(.int _ a.op),(S_ Z a.I ax)] _ _)]] R/\Sr F' U rr.l an/\Sr F' Z a.I ax/\aI f [(0,(pT a1 0)),(1,(.int _ _)),(4,(pT b1 0)),(5,(pT b9 0))]/\mm=Q ts-rr.G2.toNat/\(rr.l=ts)/\(r.G2<=rr.G2/\rr.G2<=(Q ts:Int))/\(rr.E=r.E)/\(in64 a.j)/\(in64 a.n)/\(in64 a.op)/\(∀x i9 b9,Oc (λn=>oV ts n k a rr.G2.toNat) rr.Gf rr.G2 x i9 b9->Oc (λn=>binM ts n k _) _ _ x i9 b9)) _ ⟨x8,g2,_,cL,co,c0,_,fR,d4,c5,b2,f_,V,M,M,M,X,X,X,(by intro x9 i9 b9 h9;refine Oc.Gj ?_ (λ_=>binM.eq_2 ..);refine Oc.Gl (λ_=>show ¬k=8 by omega) ?_;(try dsimp only at bl);first|exact bl|(refine Oc.seq bl ?_;exact h9))⟩ ?_)
 rintro hA it hS ⟨a,rr,U,an,Z,ax,hF,a5,b3,O,E,bF,rfl,c6,f7,ki,j1,j2,kd,hw⟩ ci;refine aw _ bF (λ_=>?_);clear bF;refine aj 2 V (ab (zm (pT a1 0) (zc (pa.mF ts ex rr (.mk (g_ b3 V) O)) ?_)));rintro _ hT ⟨kn,hG,aA,a7,rfl,ez,e0,rfl⟩;replace a7:=b3.bO a7;have⟨O,E⟩:=M2 aA O E;refine zn a7 V λia hV d5=>sgo 1 3 1 0 [] [] (Hr_ 3 3 Hn_) d5 V V λho e4 a3=>ai 2 V (bQ 3 21 27 [7,8,9] [(7,(.int _ _)),(8,(.int _ _)),(9,((opT (nxT rr).D.b).2.2))] (Hr_ 1 3 (Hc_ 2 (pb.operator_c_q ex _ e4) Hn_)) a3 V V λ_=>bQ 1 28 39 [] [(39,((((nxT rr).j !=3)||((opT (nxT rr).D.b).1==0))||((opT (nxT rr).D.b).2.1 !=(k:Int))))] (Hr_ 1 3 Hn_) a3 V V λ_=>zI 1 2 (λbb=>?_) λbb=>?_)
 ·refine sgr 1 40 40 [] [] (Hr_ 0 2 (Hr_ 1 1 Hn_)) a3 V V λhp hW b4=>ag ⟨.inr V,_,(rC V (bV V V (i_ b4 V) V) rN),a,_,_,rr,_,_,_,(fT (fT (fu) a5) aA),(HS.G9 b4),V,M,M,M,E,M,M,O,M,M,M,(by(refine hw _ _ _ ?_;refine Oc.Gj ?_ (λ_=>oV.eq_2 ..);refine Oc.iteT (λhb=>op_n c6 bb hb) ?_;exact Oc.val M (λ_=>by rfl)))⟩
 have o1:=op_y c6 k3.1 f7.1 bb;refine sgr 2 41 47 [] [] (Hr_ 3 0 (Ha_ (vi) (Hr_ 7 0 Hn_))) a3 V V λhq hX b5=>ab (cu 3 0 48 50 [] [(48,(pT a1 0)),(50,(.int _ _))] (Ha_ (vi) Hn_) V V λ_=>zc (ih.2.1 (⟨rr.l,rr.G2+1,rr.E,rr.Gf⟩:RdrT) (k+1) (.mk (g_ b5 V) O) M M) ?_)
 rintro _ h1 ⟨kt,e8,g0,hB,e7,go,hH,a6,a8,rfl,e1,e2,e3,a2,fi,fk,T,hl,c9,dk,al⟩;replace a8:=b5.bO a8;have E:=E.ac a6;try dsimp only at c9
 try dsimp only at al
 try dsimp only at dk
 refine zn a8 V λik h2 d6=>sgo 1 5 1 0 [] [] (Hr_ 5 4 Hn_) d6 V V λhr h3 a9=>ai 3 V (wr 1 [] 52 52 [] [(52,((opT (nxT rr).D.b).2.2))] trivial V V λ_=>zI 0 1 (λfd=>?_) λfd=>?_)
 ·refine sgr 1 53 54 [] [] (Hr_ 0 4 (Hr_ 1 2 (Hr_ 2 2 (Hr_ 3 4 Hn_)))) a9 V V λht h4 b6=>ab (cS 3 0 55 57 [] [(55,(.int _ _)),(56,(aG [_,_,_,_,_])),(57,(aG [_,_,_,_,_]))] (Hr_ 1 2 (Hr_ 2 4 Hn_)) b6 V V λ_=>zlo _ b6 V (RL.cs (ExpT.mq a2) (RL.cs (ExpT.mq E) RL.nl)) V λe5 f9 kk h5 dn d7=>sgo 2 4 59 59 [] [] (Hr_ 5 2 Hn_) d7 V V λhu h6 d8=>ai 2 V ?_)
  have⟨hI,bt,d9,d1,hy⟩:=OS.Gi dn d8 (i:=5) V;have T:=T.ac bt;refine ci _ _ _ ?_ ⟨(⟨4,0,_,_,_⟩:ExpT),_,_,_,e5,f9,_,(fT (fT (fT (a5) aA) a6) bt),(HS.sub d9 (a06 _ _)),T,d1,f_,V,M,M,M,(by(show in64 4;decide)),(by(show in64 0;decide)),(op_in _),(by intro x9 i9 b9 h9;refine hw _ _ _ ?_;refine Oc.Gj ?_ (λ_=>oV.eq_2 ..);refine Oc.yesF ⟨o1.1,o1.2.1,(rfl:rr.G2+1=rr.G2+1),o1.1⟩ ?_;rw[show rr.G2.toNat+1=(rr.G2+1).toNat by omega];(try dsimp only at al);first|exact al|(refine Oc.seq al ?_;(try rw[mkB_f o1.2.2.2.1 X]);(try rw[mkB_t o1.2.2.2.1 X]);exact h9))⟩;omega
 refine ab (cS 3 0 55 57 [] [(55,(.int _ _)),(56,(aG [_,_,_,_,_])),(57,(aG [_,_,_,_,_]))] (Hr_ 1 2 (Hr_ 2 4 Hn_)) a9 V V λ_=>zlo _ a9 V (RL.cs (ExpT.mq E) (RL.cs (ExpT.mq a2) RL.nl)) V λe6 gm kl h7 dt ea=>sgo 2 4 59 59 [] [] (Hr_ 5 2 Hn_) ea V V λhv h8 ee=>ai 2 V ?_);have⟨hJ,bw,em,d2,hz⟩:=OS.Gi dt ee (i:=5) V;have T:=T.ac bw;refine ci _ _ _ ?_ ⟨(⟨4,0,_,_,_⟩:ExpT),_,_,_,e6,gm,_,(fT (fT (fT (a5) aA) a6) bw),(HS.sub em (a06 _ _)),T,d2,f_,V,M,M,M,(by(show in64 4;decide)),(by(show in64 0;decide)),(op_in _),(by intro x9 i9 b9 h9;refine hw _ _ _ ?_;refine Oc.Gj ?_ (λ_=>oV.eq_2 ..);refine Oc.yesF ⟨o1.1,o1.2.1,(rfl:rr.G2+1=rr.G2+1),o1.1⟩ ?_;rw[show rr.G2.toNat+1=(rr.G2+1).toNat by omega];(try dsimp only at al);first|exact al|(refine Oc.seq al ?_;(try rw[mkB_f o1.2.2.2.1 X]);(try rw[mkB_t o1.2.2.2.1 X]);exact h9))⟩;omega
theorem unary_c_s{e1 g3 ar}(r:RdrT)(h0:pa.Pr1 H ar F e1 r g3 R ts)(N:Nat)(ih:nh ts ex N)(hm:12 *(Q ts-r.G2.toNat)+1<N+1):kKt ex 135 [(pT ar 0)] H (Po5 F H ar R λx r'=>(r'.l=ts)/\(r.G2<=r'.G2/\r'.G2<=(Q ts:Int))/\(r'.E=r.E)/\(Oc (λn=>jM ts n r.G2.toNat) r.Gf r.G2 x r'.G2 r'.Gf)):=by
 have⟨hs,n0,ri,rj,qW,hts,rq,rr⟩:=h0;refine ay Tryz.func135 V V (aj 1 V (ab (zn hs V λb1 H2 e0=>ai 4 V (ab ?_))));refine zm (pT ar 0) (zc (pa.eT ts ex r _ (.mk (g_ e0 V) n0)) ?_);rintro _ H3 ⟨o3,a6,k7,ll,F3,a3,a4,rfl,k8,k9,T,rfl,hK,hJ,qx,qy,qz⟩;replace a4:=e0.bO a4;refine za _ (ai 1 V (zI 2 1 (λc4=>?_) λc4=>?_))
 ·have b8:=hK c4;refine ab (zm (pT ar 0) (zc (pa.mF ts ex a6 (.mk (g_ a4 V) T)) ?_));rintro _ H5 ⟨t5,F5,dt,d8,rfl,iv,i0,rfl⟩;replace d8:=a4.bO d8;have T:=T.ac dt;refine zn d8 V λb6 H7 i1=>sgo 1 3 1 0 [] [] (Hr_ 3 2 Hn_) i1 V V λqA H8 b7=>ai 2 V (bQ 1 10 12 [] [(12,((nxT a6).j==2))] (Hr_ 1 2 Hn_) b7 V V λ_=>zI 1 2 (λcL=>?_) λcL=>?_)
  ·have c1:=nm_y X cL;have qw:Q (nxT _).D.b<=1000000:=c1.2.2.1▸qW _;refine sgr 2 13 19 [] [] (Hr_ 3 0 (Ha_ (vi) (Hr_ 7 0 Hn_))) b7 V V λoo hp f6=>sgr 1 20 23 [] [] (Hr_ 1 2 (Hc_ 2 (pb.negative_c_q ex _ hp M) (Hr_ 4 1 Hn_))) f6 V V λox p9 d1=>ag ⟨.inr V,_,(rC V (bV V V (i_ d1 V) V) rN),(⟨1,_,_,0,([]:List ExpT)⟩:ExpT),_,0,(⟨_,a6.G2+1,_,_⟩:RdrT),_,_,_,(fT (a3) dt),(HS.G9 d1),V,(by first|(dsimp only;omega)|omega|(rw[hts];omega)|exact er|assumption),(er),(by first|(dsimp only;omega)|omega|(rw[hts];omega)|exact er|assumption),(SR.nil:SR F5 _ _),(by first|(dsimp only;omega)|omega|(rw[hts];omega)|exact er|assumption),M,T,M,M,M,(by(refine Oc.Gj ?_ (λ_=>jM.eq_2 ..);refine Oc.yes b8 ?_;rw[ce b8 M];refine Oc.iteT (λ_=>c1.2.2.2) ?_;first|exact Oc.val M (λ_=>rfl)|exact Oc.done c1.1 c1.1 M (by rw[c1.2.2.1]<;>rfl)|exact⟨λ_=>⟨V,V⟩,λ_=> .fail M⟩))⟩
  refine ab (zm (pT ar 0) (zc (ih.2.2.1 a6 (.mk (g_ b7 V) T) M) ?_));rintro _ qa ⟨qH,hD,kt,pl,hu,jw,pX,fb,bw,rfl,g4,g5,g6,b9,hQ,hS,aA,lx,ms,nc,ba⟩;replace bw:=b7.bO bw;refine zlo _ bw V (RL.cs (ExpT.mq b9) RL.nl) V λhq i2 qE qb fu f7=>sgo 2 3 27 27 [] [] (Hr_ 4 1 Hn_) f7 V V λo0 qc d2=>ai 1 V ?_
  have⟨pY,c7,f9,f3,o9⟩:=OS.Gi fu d2 (i:=3) V;have aA:=aA.ac c7;refine ag ⟨.inr V,_,(rC V (bV V V (i_ d2 V) V) rN),(⟨4,0,_,20,_⟩:ExpT),hq,i2,_,_,_,_,(fT (fT (fT (a3) dt) fb) c7),(HS.G9 f9),V,M,M,M,f3,M,M,aA,M,M,M,(by(refine Oc.Gj ?_ (λ_=>jM.eq_2 ..);refine Oc.yes b8 ?_;rw[ce b8 M];refine Oc.Gl (λhb=>nm_n X cL hb) ?_;(try dsimp only at ba);first|exact ba|(refine Oc.seq ba ?_;first|exact Oc.val M (λ_=>rfl)|exact Oc.done c1.1 c1.1 M (by rw[c1.2.2.1]<;>rfl)|exact⟨λ_=>⟨V,V⟩,λ_=> .fail M⟩)))⟩
 have O:=hJ c4;refine ab (zm (pT ar 0) (zc (pa.eT ts ex a6 _ (.mk (g_ a4 V) T)) ?_));rintro _ qd ⟨qB,pm,hv,jA,pZ,a5,Z,rfl,hT,hV,a7,rfl,e6,e3,lz,mv,nn⟩;replace Z:=a4.bO Z;refine za _ (ai 1 V (zI 1 1 (λc0=>?_) λc0=>?_))
 ·have d9:=e6 c0;refine ab (zm (pT ar 0) (zc (ih.2.2.1 _ (.mk (g_ Z V) a7) M) ?_));rintro _ qe ⟨qI,hF,kx,pv,hw,j1,p0,fd,bF,rfl,g7,g8,g9,ch,hW,hX,a1,l3,mx,n1,bb⟩;replace bF:=Z.bO bF;refine zlo _ bF V (RL.cs (ExpT.mq ch) RL.nl) V λhr i3 qF qf f1 gm=>sgo 2 3 34 34 [] [] (Hr_ 4 1 Hn_) gm V V λo1 qg d3=>ai 1 V ?_
  have⟨p1,c8,go,f4,pi⟩:=OS.Gi f1 d3 (i:=2) V;have a1:=a1.ac c8;refine ag ⟨.inr V,_,(rC V (bV V V (i_ d3 V) V) rN),(⟨4,0,_,21,_⟩:ExpT),hr,i3,_,_,_,_,(fT (fT (fT (a3) a5) fd) c8),(HS.G9 go),V,M,M,M,f4,M,M,a1,M,M,M,(by(refine Oc.Gj ?_ (λ_=>jM.eq_2 ..);refine Oc.no O ?_;rw[←O.1,←O.2.1];refine Oc.yes d9 ?_;rw[ce d9 M];(try dsimp only at bb);first|exact bb|(refine Oc.seq bb ?_;first|exact Oc.val M (λ_=>rfl)|exact Oc.done c1.1 c1.1 M (by rw[c1.2.2.1]<;>rfl)|exact⟨λ_=>⟨V,V⟩,λ_=> .fail M⟩)))⟩
 have E:=e3 c0;refine ab (zm (pT ar 0) (zc (pa.eT ts ex _ _ (.mk (g_ Z V) a7)) ?_));rintro _ qh ⟨qC,px,hx,j2,p2,bt,al,rfl,h1,h2,a8,rfl,e7,e4,l5,m0,n2⟩;replace al:=Z.bO al;refine za _ (ai 1 V (zI 1 1 (λc3=>?_) λc3=>?_))
 ·have ea:=e7 c3;refine ab (zm (pT ar 0) (zc (ih.2.2.1 _ (.mk (g_ al V) a8) M) ?_));rintro _ qi ⟨k4,hG,kA,pA,hy,kd,p3,fi,b0,rfl,he,hf,hg,ci,h3,h4,a2,ma,m1,n3,bf⟩;replace b0:=al.bO b0;refine cu 1 2 40 40 [] [(40,(aG [_,_,_,_,_]))] Hn_ V V λ_=>zlo [k4,(⟨1,0,_,0,([]:List ExpT)⟩:ExpT)] b0 V (RL.cs (ExpT.mq ci) (RL.cs (ExpT.mq SR.nil) RL.nl)) V λht i9 qG qj f2 g0=>sgo 2 4 42 42 [] [] (Hr_ 5 1 Hn_) g0 V V λo2 qk d4=>ai 1 V ?_
  have⟨p4,c9,g1,f5,pj⟩:=OS.Gi f2 d4 (i:=2) V;have a2:=a2.ac c9;refine ag ⟨.inr V,_,(rC V (bV V V (i_ d4 V) V) rN),(⟨4,0,_,15,_⟩:ExpT),ht,i9,_,_,_,_,(fT (fT (fT (fT (a3) a5) bt) fi) c9),(HS.G9 g1),V,M,M,M,f5,M,M,a2,M,M,M,(by(refine Oc.Gj ?_ (λ_=>jM.eq_2 ..);refine Oc.no O ?_;rw[←O.1,←O.2.1];refine Oc.no E ?_;rw[←E.1,←E.2.1];refine Oc.yes ea ?_;rw[ce ea M];(try dsimp only at bf);first|exact bf|(refine Oc.seq bf ?_;first|exact Oc.val M (λ_=>rfl)|exact Oc.done c1.1 c1.1 M (by rw[c1.2.2.1]<;>rfl)|exact⟨λ_=>⟨V,V⟩,λ_=> .fail M⟩)))⟩
 have ax:=e4 c3;refine ab (zm (pT ar 0) (zc (pa.eT ts ex _ _ (.mk (g_ al V) a8)) ?_));rintro _ qm ⟨qD,pS,hz,ki,p5,dk,an,rfl,h5,h6,a9,rfl,e8,e5,mf,m2,n4⟩;replace an:=al.bO an;refine za _ (ai 1 V (zI 1 3 (λc5=>?_) λc5=>?_))
 ·have ee:=e8 c5;refine ab (zm (pT ar 0) (zc (ih.1 _ (.mk (g_ an V) a9) M) ?_));rintro _ qo ⟨k5,hH,k0,pU,hA,kk,p6,fk,b2,rfl,hh,hj,hk,U,h7,h8,em,mg,m3,n5,c6⟩;replace b2:=an.bO b2;refine zn b2 V λqv qp g2=>sgo 1 3 1 0 [] [] (Hr_ 3 2 Hn_) g2 V V λo4 qq d5=>ai 2 V (ab (zm (pT ar 0) (zc (pa.aM ts ex _ _ (.mk (g_ d5 V) em)) ?_)))
  rintro _ qr ⟨pV,hB,kl,p7,dn,b3,rfl,h9,ia,et,m9,mm,m6,n6,bl⟩;replace b3:=d5.bO b3;have U:=U.ac dn;refine ai 2 V (sgr 1 50 50 [] [] (Hr_ 0 2 (Hr_ 1 1 Hn_)) b3 V V λo6 qs d6=>ag ⟨.inr V,_,(rC V (bV V V (i_ d6 V) V) rN),k5,_,_,_,_,_,_,(fT (fT (fT (fT (fT (a3) a5) bt) dk) fk) dn),(HS.G9 d6),V,M,M,M,U,M,M,et,M,M,M,(by(refine Oc.Gj ?_ (λ_=>jM.eq_2 ..);refine Oc.no O ?_;rw[←O.1,←O.2.1];refine Oc.no E ?_;rw[←E.1,←E.2.1];refine Oc.no ax ?_;rw[←ax.1,←ax.2.1];refine Oc.yes ee ?_;rw[ce ee M];(try dsimp only at c6);refine Oc.seq c6 ?_;(try dsimp only at bl);first|exact bl|(refine Oc.seq bl ?_;first|exact Oc.val M (λ_=>rfl)|exact Oc.done c1.1 c1.1 M (by rw[c1.2.2.1]<;>rfl)|exact⟨λ_=>⟨V,V⟩,λ_=> .fail M⟩)))⟩)
 have b5:=e5 c5;refine ab (zm (pT ar 0) (zc (ih.2.2.2 _ (.mk (g_ an V) a9) M) ?_));rintro _ qt ⟨k6,hI,k3,pW,hC,kn,p8,fq,b4,rfl,hl,hn,ho,co,ik,it,ez,mp,m7,n7,bn⟩;replace b4:=an.bO b4;refine sgo 1 2 1 0 [] [] (Hr_ 2 1 Hn_) b4 V V λo7 qu d7=>ai 1 V (ag ⟨.inr V,_,(rC V (bV V V (i_ d7 V) V) rN),k6,_,_,_,_,_,_,(fT (fT (fT (fT (a3) a5) bt) dk) fq),(HS.G9 d7),V,M,M,M,co,M,M,ez,M,M,M,(by(refine Oc.Gj ?_ (λ_=>jM.eq_2 ..);refine Oc.no O ?_;rw[←O.1,←O.2.1];refine Oc.no E ?_;rw[←E.1,←E.2.1];refine Oc.no ax ?_;rw[←ax.1,←ax.2.1];refine Oc.no b5 ?_;rw[←b5.1,←b5.2.1];(try dsimp only at bn);first|exact bn|(refine Oc.seq bn ?_;first|exact Oc.val M (λ_=>rfl)|exact Oc.done c1.1 c1.1 M (by rw[c1.2.2.1]<;>rfl)|exact⟨λ_=>⟨V,V⟩,λ_=> .fail M⟩)))⟩)
theorem primary_c_s{b7 c6 b3}(r:RdrT)(h0:pa.Pr1 H b3 F b7 r c6 R ts)(N:Nat)(ih:nh ts ex N)(hm:12 *(Q ts-r.G2.toNat)<N+1):kKt ex 141 [(pT b3 0)] H (Po5 F H b3 R λx r'=>(r'.l=ts)/\(r.G2<=r'.G2/\r'.G2<=(Q ts:Int))/\(r'.E=r.E)/\(Oc (λn=>priM ts n r.G2.toNat) r.Gf r.G2 x r'.G2 r'.Gf)):=by
 have⟨hs,ar,ie,ik,hS,hts,it,iv⟩:=h0;refine ay Tryz.func141 V V (aj 1 V (ab (zn hs V λb1 H2 b5=>ai 3 V (ab ?_))));refine zm (pT b3 0) (zc (pa.mF ts ex r (.mk (g_ b5 V) ar)) ?_);rintro _ H3 ⟨t3,F3,ax,bw,rfl,e0,e1,rfl⟩;replace bw:=b5.bO bw;have ar:=ar.ac ax;refine zn bw V λb4 H5 e2=>sgo 1 3 1 0 [] [] (Hr_ 3 2 Hn_) e2 V V λhC H6 U=>ai 2 V (bQ 1 10 12 [] [(12,((nxT r).j==2))] (Hr_ 1 2 Hn_) U V V λ_=>zI 1 2 (λc8=>?_) λc8=>?_)
 ·have c1:=nm_y X c8;have hB:Q (nxT _).D.b<=1000000:=c1.2.2.1▸hS _;refine bQ 3 13 18 [4,5] [(4,(.int _ _)),(5,(.bool (bu (nxT r).D.b).isSome))] (Hr_ 1 2 (Hc_ 2 (w3.mB ex _ H6) Hn_)) U V V λ_=>wr 1 [] 19 20 [] [(20,(!(bu (nxT r).D.b).isSome))] trivial V V λ_=>zI 1 2 (λa4=>?_) λa4=>?_
  ·refine sgr 2 21 23 [] [] (Hr_ 3 0 Hn_) U V V λgo hl cL=>sgr 1 24 24 [] [] (Hr_ 1 1 Hn_) cL V V λg0 hn bb=>ag ⟨.inr V,_,(rC V (bV V V (i_ bb V) V) rN),(⟨0,0,_,0,([]:List ExpT)⟩:ExpT),_,0,(⟨r.l,r.G2,_,true⟩:RdrT),_,_,_,(ax),(HS.G9 bb),V,M,M,M,(SR.nil:SR F3 _ _),M,M,ar,X,M,k_,(by(refine Oc.Gj ?_ (λ_=>priM.eq_2 ..);refine Oc.iteT (λ_=>c1.2.2.2) ?_;refine Oc.Gl (λ_=>pri_n c1.2.2.1 a4) ?_;first|exact Oc.val M (λ_=>rfl)|exact Oc.done c1.1 c1.1 M (by rw[c1.2.2.1]<;>rfl)|exact⟨λ_=>⟨V,V⟩,λ_=> .fail M⟩))⟩
  refine sgr 2 25 31 [] [] (Hr_ 3 0 (Ha_ (vi) (Hr_ 7 0 Hn_))) U V V λg1 ho c0=>sgr 1 32 33 [] [] (Hr_ 2 1 Hn_) c0 V V λg2 hp bf=>ag ⟨.inr V,_,(rC V (bV V V (i_ bf V) V) rN),(⟨1,_,_,0,([]:List ExpT)⟩:ExpT),_,0,(⟨r.l,r.G2+1,_,_⟩:RdrT),_,_,_,(ax),(HS.G9 bf),V,(by first|(dsimp only;omega)|omega|(rw[hts];omega)|exact er),(er),(by first|(dsimp only;omega)|omega|(rw[hts];omega)|exact er),(SR.nil:SR F3 _ _),(by first|(dsimp only;omega)|omega|(rw[hts];omega)|exact er),M,ar,M,M,k_,(by(refine Oc.Gj ?_ (λ_=>priM.eq_2 ..);refine Oc.iteT (λ_=>c1.2.2.2) ?_;refine Oc.iteT (λ_=>pri_y c1.2.2.1 a4) ?_;first|exact Oc.val M (λ_=>rfl)|exact Oc.done c1.1 c1.1 M (by rw[c1.2.2.1]<;>rfl)|exact⟨λ_=>⟨V,V⟩,λ_=> .fail M⟩))⟩
 refine ab (zm (pT b3 0) (zc (pa.mH ts ex r (.mk (g_ U V) ar)) ?_));rintro _ hq ⟨b6,g8,d2,e4,hg,a7,al,rfl,d7,d8,b0,f4,fd,fu,f6,Z⟩;replace al:=U.bO al;refine za (tX b6) (ai 3 V (ab (zm (pT b3 0) (zc (pa.eT ts ex _ _ (.mk (g_ al V) b0)) ?_))));rintro _ hr ⟨hD,g9,d3,e5,dn,a8,O,rfl,d9,ea,aA,rfl,b9,b8,fi,f1,f7⟩;replace O:=al.bO O;refine wro 1 2 [] 38 38 [] [(38,(!(isB _ _)))] trivial V V λ_=>ai 1 V (zI 1 2 (λa5=>?_) λa5=>?_)
 ·have a3:=b8 a5;refine sgr 1 39 40 [] [] (Hr_ 2 1 Hn_) O V V λg3 ht bl=>ag ⟨.inr V,_,(rC V (bV V V (i_ bl V) V) rN),(⟨2,0,_,0,_⟩:ExpT),_,0,_,_,_,_,(fT (fT (ax) a7) a8),(HS.G9 bl),V,M,M,M,(SR.nil:SR dn _ _),M,M,aA,M,M,M,(by(refine Oc.Gj ?_ (λ_=>priM.eq_2 ..);refine Oc.Gl (λhb=>nm_n X c8 hb) ?_;(try dsimp only at Z);refine Oc.seq Z ?_;refine Oc.no a3 ?_;rw[←a3.1,←a3.2.1];first|exact Oc.val M (λ_=>rfl)|exact Oc.done c1.1 c1.1 M (by rw[c1.2.2.1]<;>rfl)|exact⟨λ_=>⟨V,V⟩,λ_=> .fail M⟩))⟩
 have bF:=b9 a5;refine ab (zm (pT b3 0) (zc (ih.1 _ (.mk (g_ O V) aA) M) ?_));rintro _ hu ⟨hG,d6,e8,he,d4,e6,hh,ch,a2,rfl,c7,c9,dk,E,ee,em,b2,fk,f2,f9,a6⟩;replace a2:=O.bO a2;refine zn a2 V λhA hv c3=>sgo 1 3 1 0 [] [] (Hr_ 3 3 Hn_) c3 V V λg4 hw bn=>ai 2 V (ab (zm (pT b3 0) (zc (pa.aM ts ex _ _ (.mk (g_ bn V) b2)) ?_)))
 rintro _ hx ⟨hf,d5,e7,hj,a9,an,rfl,et,ez,T,f5,fq,f3,gm,a1⟩;replace an:=bn.bO an;have E:=E.ac a9;refine ai 2 V (ab (cS 2 0 45 46 [] [(45,(tX b6)),(46,(aG [_,_,_,_,_]))] (Hr_ 1 3 Hn_) an V V λ_=>zlo _ an V (RL.cs (ExpT.mq E) RL.nl) V λd1 e3 hF hy ci c4=>sgo 2 3 48 48 [] [] (Hr_ 4 1 Hn_) c4 V V λg5 hz bt=>ai 1 V ?_));have⟨hk,ba,c5,co,g7⟩:=OS.Gi ci bt (i:=4) V;have T:=T.ac ba;refine ag ⟨.inr V,_,(rC V (bV V V (i_ bt V) V) rN),(⟨3,0,_,0,_⟩:ExpT),d1,e3,_,_,_,_,(fT (fT (fT (fT (fT (ax) a7) a8) ch) a9) ba),(HS.G9 c5),V,M,M,M,co,M,M,T,M,M,M,(by(refine Oc.Gj ?_ (λ_=>priM.eq_2 ..);refine Oc.Gl (λhb=>nm_n X c8 hb) ?_;(try dsimp only at Z);refine Oc.seq Z ?_;refine Oc.yes bF ?_;rw[ce bF M];(try dsimp only at a6);refine Oc.seq a6 ?_;(try dsimp only at a1);first|exact a1|(refine Oc.seq a1 ?_;first|exact Oc.val M (λ_=>rfl)|exact Oc.done c1.1 c1.1 M (by rw[c1.2.2.1]<;>rfl)|exact⟨λ_=>⟨V,V⟩,λ_=> .fail M⟩)))⟩
theorem fS(ex:FuncId): ∀N,nh ts ex N
 |0=>⟨by intros;omega,by intros;omega,by intros;omega,by intros;omega⟩
 |N+1=>⟨by intros;apply expr_c_s ts ex (N:=N) (ih:=fS ex N)<;>assumption,by intros;apply binary_c_s ts ex (N:=N) (ih:=fS ex N)<;>assumption,by intros;apply unary_c_s ts ex (N:=N) (ih:=fS ex N)<;>assumption,by intros;apply primary_c_s ts ex (N:=N) (ih:=fS ex N)<;>assumption⟩
theorem fO{E O Z}(r:RdrT)(T:pa.Pr1 H Z F E r O R ts):kKt ex 85 [(pT Z 0)] H (Po5 F H Z R λx U=>(U.l=ts)/\(r.G2<=U.G2/\U.G2<=(Q ts:Int))/\(U.E=r.E)/\(Oc (λn=>ev ts n r.G2.toNat) r.Gf r.G2 x U.G2 U.Gf)):=by apply(fS ts ex (12 *(Q ts-r.G2.toNat)+11+1)).1<;>first|assumption|exact a0y _
end pc
open pc
namespace pd
theorem ExpT.eta(x:ExpT):(⟨x.j,x.n,⟨x.pp.b⟩,x.op,x.I⟩:ExpT)=x:=by cases x;rfl
theorem Oc.G8{α:Type}{f:Nat->Rs α}{b E:Bool}{i O:Int}{x:α}(h:Oc f b i x O E)(hb:E=false):b=false:=by
 cases b with
 |false=>rfl
 |true=>have:=(h.1 V).1;rw[hb]at this;cases this
theorem is_t{ts:List Token}{r:RdrT}{s:List UInt8}(E:r.l=ts)(h:isB r s=true):r.Gf=false/\isS ts r.G2.toNat s=true:=by unfold isB at h;rw[a04,a0K,E]at h;exact h
theorem is_f{ts:List Token}{r:RdrT}{s:List UInt8}(E:r.l=ts)(hb:r.Gf=false)(h:isB r s=false): ¬isS ts r.G2.toNat s=true:=λk=>by unfold isB at h;rw[hb,E,k]at h;cases h
theorem acB_t{ts:List Token}{r:RdrT}(E:r.l=ts)(h:acB ts r=true):(isN ts r.G2.toNat&&isS ts (r.G2.toNat+1) [40])=true:=by unfold acB at h;rw[a04,pN E]at h;rw[a04];exact⟨h.1.2,h.2⟩
theorem acB_f{ts:List Token}{r:RdrT}(E:r.l=ts)(hb:r.Gf=false)(h:acB ts r=false): ¬(isN ts r.G2.toNat&&isS ts (r.G2.toNat+1) [40])=true:=λk=>by rw[a04]at k;unfold acB at h;rw[(pN E).2 ⟨hb,k.1⟩,k.2]at h;cases h
theorem Oc.blk{α:Type}{ts:List Token}{r:RdrT}{s:List UInt8}{g:Nat->Rs α}{x:α}{j:Int}{b:Bool}(h:r.Gf=true\/isB r s=true)(U:r.l=ts)(T:0<=r.G2)(f:Oc (λ_=>i4 ts s r.G2.toNat) r.Gf r.G2 () j b):Oc (λn=>if isS ts r.G2.toNat s=true then .ok (x,r.G2.toNat+1) else g n) r.Gf r.G2 x j b:=by
 refine⟨f.1,λhb=>?_⟩;have hs:isS ts r.G2.toNat s=true:=by
  rcases h with h|h
  ·rw[hb]at h;cases h
  exact(is_t U h).2
 have k:=f.2 hb;have k2:Outc (λ_=>i4 ts s r.G2.toNat) () (r.G2+1) false:=by unfold i4;rw[if_pos hs];exact .val M
 have⟨E,O,_⟩:=k.uniq k2;rw[E,O];exact Outc.iteT hs (.val M)
variable (ts:List Token)
variable (ex:FuncId) {F:Fz} {H:Heap} {R:List Fp}
theorem mW{a6 a7 ar}(r:RdrT)(h0:pa.Pr1 H ar F a6 r a7 R ts):kKt ex 117 [(pT ar 0)] H (pc.Po5 F H ar R λx r'=>(r'.l=ts)/\(r.G2<=r'.G2/\r'.G2<=(Q ts:Int))/\(r'.E=r.E)/\(Oc (λn=>condM ts n r.G2.toNat) r.Gf r.G2 x r'.G2 r'.Gf)):=by
 have⟨hs,cv,ea,ee,ez,hts,em,et⟩:=h0;refine ay Tryz.func117 V V (aj 1 V (ab (zn hs V λb1 H2 a3=>ai 2 V (ab ?_))));refine zm (pT ar 0) (zc (pa.aM ts ex r _ (.mk (g_ a3 V) cv)) ?_);rintro _ H3 ⟨bn,bF,ci,F3,a8,O,rfl,b4,b6,al,dn,c5,c8,d1,aA⟩;replace O:=a3.bO O;refine ai 2 V (ab (zm (pT ar 0) (zc (pc.fO ts ex bn (.mk (g_ O V) al)) ?_)));rintro _ H4 ⟨x4,b3,c0,bt,b0,co,F4,a9,U,rfl,ba,bb,bf,E,b7,b8,an,c6,c9,d2,a1⟩;replace U:=O.bO U;refine zn U V λb5 H6 bl=>sgo 1 3 1 0 [] [] (Hr_ 3 2 Hn_) bl V V λd4 H7 a4=>ai 2 V (ab (zm (pT ar 0) (zc (pa.aM ts ex bt _ (.mk (g_ a4 V) an)) ?_)))
 rintro _ H8 ⟨bw,b2,cL,F8,a2,Z,rfl,b9,ch,ax,dt,c7,dk,d3,T⟩;replace Z:=a4.bO Z;have E:=E.ac a2;refine ai 2 V (sgr 1 10 10 [] [] (Hr_ 0 2 (Hr_ 1 1 Hn_)) Z V V λd5 H9 a5=>ag ⟨.inr V,_,(rC V (bV V V (i_ a5 V) V) rN),x4,_,_,bw,_,_,_,(fT (fT (a8) a9) a2),(HS.G9 a5),V,M,M,M,E,M,M,ax,M,M,M,(by(unfold condM;(try dsimp only at aA);refine Oc.seq aA ?_;(try dsimp only at a1);refine Oc.seq a1 ?_;(try dsimp only at T);first|exact T|(refine Oc.seq T ?_;exact Oc.val M (λ_=>by rfl))))⟩)
theorem args_c{d6 e6 ar}(r:RdrT)(h0:pa.Pr1 H ar F d6 r e6 R ts):kKt ex 134 [(pT ar 0)] H λv H'=> ∃ax,∃(kx:Nat) (x:List ExpT) (r':RdrT),∃b0,∃(c3:Nat),∃F',F.le F'/\HS (.of H [ar]) F' H' [(rZ ar r' b0 c3)] R/\v=sL ax (Q x) kx/\Sr F' ax x kx/\in64 r'.G2/\in64 r'.E/\Sr F' b0 r'.l c3/\(r'.l=ts)/\(r.G2<=r'.G2/\r'.G2<=(Q ts:Int))/\(r'.E=r.E)/\(Oc (λn=>argM ts n r.G2.toNat) r.Gf r.G2 x r'.G2 r'.Gf):=by
 have⟨hs,hQ,m9,nc,n3,hts,n1,n2⟩:=h0;refine ay Tryz.func134 V V (aj 1 V (wr 2 [] 2 2 [] [(2,(sL _ 0 0))] trivial V V λ_=>ab (zm (pT ar 0) (zc (pa.aM ts ex r _ (.mk (g_ hs V) hQ)) ?_))));rintro _ H2 ⟨bw,hg,ho,F2,d1,bt,rfl,hk,hl,U,kd,i3,j1,ki,bn⟩;replace bt:=hs.bO bt;refine ai 2 V (wr 3 [] 1 0 [3] [(3,(sL _ 0 0))] trivial V V λ_=>ab (zm (pT ar 0) (zc (pa.is_c ts ex bw _ (.mk (g_ bt V) U)) ?_)));rintro _ H4 ⟨o4,F4,b7,a2,rfl,rfl⟩;replace a2:=bt.bO a2;have U:=U.ac b7;refine wro 1 2 [] 8 8 [] [(8,(!(isB bw _)))] trivial V V λ_=>ai 1 V (zI 1 2 (λc6=>?_) λc6=>?_)
 ·refine ab (wro 2 0 [] 9 10 [] [(9,(sL _ 0 0)),(10,(pT ar 0))] trivial V V λ_=>zc (pc.fO ts ex bw (.mk (g_ a2 V) U)) ?_);rintro _ H8 ⟨x8,hj,hq,he,hh,hp,F8,go,c0,rfl,g0,g1,g2,ch,hm,hn,dk,jA,j2,kk,b2⟩;replace c0:=a2.bO c0;refine zlo _ c0 V (RL.cs (ExpT.mq ch) RL.nl) V λa9 k9 p9 h6 g3 e1=>?_
  have ci:=HS.snoc e1;refine zao 2 (OS.nil:OS F8 _ _ []) ci (OS.sv g3 ci (i:=1) V) V V V M λdn d2 d4 h7 a7 e2=>?_
  have a7:OS F8 (sL dn (Q [x8]) d2) [x8] d4:=a7;refine za _ (ai 2 V (ak (λ(mm:Nat) f H'=> ∃(l:List ExpT) (rr:RdrT),∃al,∃(an:Nat),∃aA O,∃(T:Nat),∃F',F8.le F'/\HS _ F' H' [[(ar,.cells [(S_ O rr.l T),(.int _ rr.G2),(.int _ rr.E),rr.Gf] _ _)],p9,aA] R/\OZ F' al l an aA/\Sr F' O rr.l T/\aI f [(0,(pT ar 0)),(3,(S_ al l an))]/\mm=Q ts-rr.G2.toNat/\(rr.l=ts)/\(r.G2<=rr.G2/\rr.G2<=(Q ts:Int))/\(rr.E=r.E)/\((Q l:Int)<=rr.G2+1)/\(∀x i9 b9,Oc (λn=>argL ts n l rr.G2.toNat) rr.Gf rr.G2 x i9 b9->Oc (λn=>argM ts n _) _ _ x i9 b9)) _ ⟨_,he,dn,d2,d4,_,_,_,fR,e2,a7,dk,f_,V,M,M,M,(by(try rw[a00,a0v]);first|omega|(show(1:Int)<=_;omega)|(show((1:Nat):Int)<=_;omega)),(by intro x9 i9 b9 h9;unfold argM;(try dsimp only at bn);refine Oc.seq bn ?_;refine Oc.Gl (λhb=>is_f X hb c6) ?_;(try dsimp only at b2);first|exact b2|(refine Oc.seq b2 ?_;exact h9))⟩ ?_));rintro hK jw h8 ⟨l,rr,al,an,aA,O,T,h1,b3,co,E,bl,b8,rfl,kl,kn,kt,kA,hw⟩ e5;refine aw _ b8 (λ_=>?_);clear b8;refine aj 2 V (ab (zm (pT ar 0) (zc (pa.eT ts ex rr _ (.mk (g_ co V) bl)) ?_)));rintro _ ia ⟨k3,hS,fi,g4,h2,a6,Z,rfl,f2,f3,a3,rfl,ea,d9,hr,hx,hD⟩;replace Z:=co.bO Z;have E:=E.ac a6;refine ai 1 V (zI 2 5 (λb1=>?_) λb1=>?_)
  ·have c4:=ea b1;refine ab (wro 2 0 [] 16 17 [] [(16,(sL _ _ _)),(17,(pT ar 0))] trivial V V λ_=>zc (pc.fO ts ex _ (.mk (g_ Z V) a3)) ?_);rintro _ ik ⟨k5,f1,g8,hT,fk,g5,h3,b4,a8,rfl,e7,e8,fb,bF,f4,f5,c5,ht,hy,hF,a4⟩;replace a8:=Z.bO a8;have E:=E.ac b4;refine zlo _ a8 V (RL.cs (ExpT.mq bF) RL.nl) V λi2 k0 k4 it et cL=>zao 2 E cL (OS.sv et cL (i:=3) V) V V V M λdt d3 g9 iv ez e3=>za (sL dt _ d3) (ai 2 V ?_)
   refine e5 _ _ _ ?_ ⟨_,_,dt,d3,g9,_,_,_,(fT (fT (b3) a6) b4),(HS.sub e3 (a06 _ _)),ez,c5,f_,V,M,M,M,(by(try rw[a00,a0v]);first|omega|(show(1:Int)<=_;omega)|(show((1:Nat):Int)<=_;omega)),(by intro x9 i9 b9 h9;refine hw _ _ _ ?_;refine Oc.Gj ?_ (λ_=>argL.eq_2 ..);refine Oc.yes c4 ?_;rw[ce c4 M];(try dsimp only at a4);first|exact a4|(refine Oc.seq a4 ?_;exact h9))⟩;omega
  have bf:=d9 b1;refine ab (zm (pT ar 0) (zc (pa.aM ts ex _ _ (.mk (g_ Z V) a3)) ?_));rintro _ i0 ⟨hV,fq,g6,h4,b5,ba,rfl,f6,f7,a1,hB,hu,hz,hG,a5⟩;replace ba:=Z.bO ba;have E:=E.ac b5;refine ai 2 V (wr 1 [] 2 2 [23] [(2,(sL _ _ _))] trivial V V λ_=>?_);have⟨h5,b6,e4,e0,hJ⟩:=OS.Gi E ba (i:=2) V;have a1:=a1.ac b6;refine ag ⟨.inr V,_,V,_,_,l,_,_,_,_,(fT (fT (fT (fT (fT (fT (d1) b7) go) b3) a6) b5) b6),(HS.G9 e4),V,e0,M,M,a1,M,M,M,(by(refine hw _ _ _ ?_;refine Oc.Gj ?_ (λ_=>argL.eq_2 ..);refine Oc.no bf ?_;rw[←bf.1,←bf.2.1];(try dsimp only at a5);first|exact a5|(refine Oc.seq a5 ?_;exact Oc.val M (λ_=>by rfl))))⟩
 have hi:=c6;refine ab (zm (pT ar 0) (zc (pa.aM ts ex bw _ (.mk (g_ a2 V) U)) ?_));rintro _ i1 ⟨hW,fu,g7,fd,em,bb,rfl,f9,gm,c7,hC,hv,hA,hH,d8⟩;replace bb:=a2.bO bb;refine ai 2 V (wr 1 [] 2 2 [23] [(2,(sL _ 0 0))] trivial V V λ_=>ag ⟨.inr V,_,V,_,0,_,_,_,_,_,(fT (fT (d1) b7) em),(HS.G9 bb),V,(SR.nil:SR fd _ _),M,M,c7,M,M,M,(by(unfold argM;(try dsimp only at bn);refine Oc.seq bn ?_;exact Oc.blk (.inr hi) X M d8))⟩)
abbrev Po6(F:Fz)(H:Heap)(b_r:Nat)(R:List Fp)(Φ:StmT->RdrT->Prop)(v:Value)(H':Heap):Prop:= ∃(x:StmT),∃ax_8,∃(kx_8:Nat),∃ax_13,∃(kx_13:Nat),∃ax_14,∃(kx_14:Nat),∃ax_15,∃(kx_15:Nat),∃ax_16,∃(kx_16:Nat) (r':RdrT),∃am_0,∃(km_0:Nat),∃F',F.le F'/\HS (.of H [b_r]) F' H' [[(b_r,.cells [(sL am_0 (Q r'.l) km_0),(iI r'.G2),(iI r'.E),(.bool r'.Gf)] none false)]] R/\v= .agg ⟨[iI x.j,tX x.pp.b,tX x.K.b,iI x.n,iI x.G2.j,iI x.G2.n,tX x.G2.pp.b,iI x.G2.op,sL ax_8 (Q x.G2.I) kx_8,iI x.val.j,iI x.val.n,tX x.val.pp.b,iI x.val.op,sL ax_13 (Q x.val.I) kx_13,sL ax_14 (Q x.y) kx_14,sL ax_15 (Q x.G4) kx_15,sL ax_16 (Q x.G7) kx_16]⟩/\in64 x.j/\in64 x.n/\in64 x.G2.j/\in64 x.G2.n/\in64 x.G2.op/\in64 x.val.j/\in64 x.val.n/\in64 x.val.op/\SR F' (sL ax_8 (Q x.G2.I) kx_8) x.G2.I/\SR F' (sL ax_13 (Q x.val.I) kx_13) x.val.I/\SR F' (sL ax_14 (Q x.y) kx_14) x.y/\SR F' (sL ax_15 (Q x.G4) kx_15) x.G4/\SR F' (sL ax_16 (Q x.G7) kx_16) x.G7/\in64 r'.G2/\in64 r'.E/\SR F' (sL am_0 (Q r'.l) km_0) r'.l/\Φ x r'
theorem simple_c{f5 hg ar}(r:RdrT)(h0:pa.Pr1 H ar F f5 r hg R ts):kKt ex 119 [(pT ar 0)] H (Po6 F H ar R λx r'=>(r'.Gf=false->r.G2<r'.G2)/\(r'.l=ts)/\(r.G2<=r'.G2/\r'.G2<=(Q ts:Int))/\(r'.E=r.E)/\(Oc (λn=>simM ts n r.G2.toNat) r.Gf r.G2 x r'.G2 r'.Gf)):=by
 have⟨hs,gs,rq,rr,ry,hts,rv,rx⟩:=h0;refine ay Tryz.func119 V V (aj 1 V (ab (zn hs V λb1 H2 f1=>ai 4 V (ab ?_))));refine zm (pT ar 0) (zc (pa.cI ts ex r _ (.mk (g_ f1 V) gs)) ?_);rintro _ H3 ⟨o3,f3,k9,mv,F3,ba,a1,rfl,l3,l5,c5,rfl,hI,hG,qQ,qU,qY⟩;replace a1:=f1.bO a1;refine za _ (ai 1 V (zI 1 1 (λc4=>?_) λc4=>?_))
 ·have c0:=hI c4;refine ab (zm (pT ar 0) (zc (pc.fO ts ex f3 (.mk (g_ a1 V) c5)) ?_));rintro _ H5 ⟨x5,lz,m2,k4,ll,mx,F5,i1,e0,rfl,i3,i9,jw,d7,ma,mf,fk,qR,qV,qZ,ci⟩;replace e0:=a1.bO e0;refine sgo 2 2 9 9 [] [] (Hr_ 3 1 Hn_) e0 V V λq7 H6 f2=>ai 1 V (ag ⟨.inr V,_,(rC V (bV V V (i_ f2 V) V) rN),(⟨5,_,_,0,(⟨0,0,_,0,([]:List ExpT)⟩:ExpT),(⟨_,_,⟨x5.pp.b⟩,_,_⟩:ExpT),([]:List ExpT),([]:List StmT),([]:List StmT)⟩:StmT),_,0,_,_,_,0,_,0,_,0,k4,_,_,_,(fT (ba) i1),(HS.G9 f2),V,M,M,M,M,M,M,M,M,(SR.nil:SR F5 _ _),d7,(SR.nil:SR F5 _ _),(SR.nil:SR F5 _ _),(SR.nil:SR F5 _ _),M,M,fk,(by(intro hb;(try dsimp only at hb);replace hb:=Oc.G8 ci hb;replace hb:=c0.1;have g3:=c0.2.2.1;first|omega|(dsimp only;omega))),M,M,M,(by(unfold simM;refine Oc.yes c0 ?_;rw[ce c0 M];(try dsimp only at ci);first|exact ci|(refine Oc.seq ci ?_;exact Oc.val M (λ_=>by(simp only[ExpT.eta]<;>rfl)))))⟩)
 have E:=hG c4;refine ab (zm (pT ar 0) (zc (pa.cI ts ex f3 _ (.mk (g_ a1 V) c5)) ?_));rintro _ H7 ⟨o7,f4,lr,m0,F7,cL,a2,rfl,mg,mm,c6,rfl,hJ,hH,qS,qW,q0⟩;replace a2:=a1.bO a2;refine za _ (ai 1 V (zI 1 3 (λc8=>?_) λc8=>?_))
 ·have c3:=hJ c8;refine ab (zm (pT ar 0) (zc (pb.small_c ts ex f4 (.mk (g_ a2 V) c6)) ?_));rintro _ H9 ⟨x9,k5,lx,m1,F9,i2,e1,rfl,mp,ms,fq,q2,qT,qX,q1,co⟩;replace e1:=a2.bO e1;refine sgo 2 2 15 15 [] [] (Hr_ 3 1 Hn_) e1 V V λpV qt d8=>ai 1 V (ag ⟨.inr V,_,(rC V (bV V V (i_ d8 V) V) rN),(⟨7,_,_,x9,(⟨0,0,_,0,([]:List ExpT)⟩:ExpT),(⟨0,0,_,0,([]:List ExpT)⟩:ExpT),([]:List ExpT),([]:List StmT),([]:List StmT)⟩:StmT),_,0,_,0,_,0,_,0,_,0,k5,_,_,_,(fT (fT (ba) cL) i2),(HS.G9 d8),V,M,M,M,M,M,M,M,M,(SR.nil:SR F9 _ _),(SR.nil:SR F9 _ _),(SR.nil:SR F9 _ _),(SR.nil:SR F9 _ _),(SR.nil:SR F9 _ _),M,M,fq,(by(intro hb;(try dsimp only at hb);replace hb:=Oc.G8 co hb;replace hb:=c3.1;have g7:=c3.2.2.1;rw[E.2.1]at hb;first|omega|(dsimp only;omega))),M,M,M,(by(unfold simM;refine Oc.no E ?_;rw[←E.1,←E.2.1];refine Oc.yes c3 ?_;rw[ce c3 M];(try dsimp only at co);first|exact co|(refine Oc.seq co ?_;exact Oc.val M (λ_=>by rfl))))⟩)
 have T:=hH c8;refine ab (zm (pT ar 0) (zc (pa.mH ts ex f4 (.mk (g_ a2 V) c6)) ?_));rintro _ qu ⟨ra,p7,hr,jA,qj,bF,b3,rfl,hQ,hS,e2,bw,m6,n6,o9,O⟩;replace b3:=a2.bO b3;refine cu 1 2 18 18 [] [(18,(aG [_,_,_,_,_,_,_,_,_,_,_,_,_,_,_,_,_]))] Hn_ V V λ_=>zn b3 V λqP qv g8=>sgo 1 4 1 0 [] [] (Hr_ 4 2 Hn_) g8 V V λpW qw d9=>ai 3 V (ab (zm (pT ar 0) ?_))
 refine zc (pa.eT ts ex _ _ (.mk (g_ d9 V) e2)) ?_;rintro _ qx ⟨q8,p8,ht,j1,qk,b0,ax,rfl,hT,hV,bb,rfl,g1,g0,m7,n7,pi⟩;replace ax:=d9.bO ax;refine ai 1 V (zI 1 2 (λdt=>?_) λdt=>?_)
 ·have a9:=g1 dt;refine ab (zm (pT ar 0) (zc (pc.fO ts ex _ (.mk (g_ ax V) bb)) ?_));rintro _ qy ⟨rb,hC,kA,p9,hu,j2,qm,g2,b4,rfl,hh,hj,hk,an,hW,hX,e3,m9,oo,pj,bf⟩;replace b4:=ax.bO b4;refine sgo 4 2 23 24 [] [] (Hr_ 3 2 (Hr_ 5 2 Hn_)) b4 V V λpX qz ea=>ai 2 V (ab (zm (pT ar 0) (zc (pa.aM ts ex _ _ (.mk (g_ ea V) e3)) ?_)))
  rintro _ qA ⟨qa,hv,kd,qo,d3,a6,rfl,h1,h2,e4,f9,nc,ox,pl,bl⟩;replace a6:=ea.bO a6;refine ai 2 V (ab (zm (pT ar 0) (zc (pa.aM ts ex _ _ (.mk (g_ a6 V) e4)) ?_)));rintro _ qB ⟨qb,hw,ki,qp,d4,a7,rfl,h3,h4,e5,gm,nn,o0,pm,bn⟩;replace a7:=a6.bO a7;refine ai 2 V (ab (zm (pT ar 0) (zc (pc.fO ts ex _ (.mk (g_ a7 V) e5)) ?_)));rintro _ qC ⟨k6,hD,k0,qc,hx,kk,dk,d5,b5,rfl,hl,hm,hn,c7,h5,h6,e6,n1,o1,pv,a3⟩;replace b5:=a7.bO b5;replace an:=((an.ac d3).ac d4).ac d5;refine sgo 2 2 31 31 [] [] (Hr_ 3 2 Hn_) b5 V V λpY qD g9=>ai 2 V (sgr 1 32 32 [] [] (Hr_ 0 2 (Hr_ 1 1 Hn_)) g9 V V λpZ qE ee=>ag ⟨.inr V,_,(rC V (bV V V (i_ ee V) V) rN),(⟨2,_,_,0,_,(⟨_,_,⟨k6.pp.b⟩,_,_⟩:ExpT),([]:List ExpT),([]:List StmT),([]:List StmT)⟩:StmT),_,_,_,_,_,0,_,0,_,0,_,_,_,_,(fT (fT (fT (fT (fT (fT (fT (ba) cL) bF) b0) g2) d3) d4) d5),(HS.G9 ee),V,M,M,M,M,M,M,M,M,an,c7,(SR.nil:SR dk _ _),(SR.nil:SR dk _ _),(SR.nil:SR dk _ _),M,M,e6,(by(intro hb;(try dsimp only at hb);replace hb:=Oc.G8 a3 hb;have q5:=gm hb;replace hb:=Oc.G8 bn hb;have q4:=f9 hb;replace hb:=Oc.G8 bl hb;replace hb:=Oc.G8 bf hb;replace hb:=a9.1;have q3:=a9.2.2.1;have fu:=bw hb;replace hb:=Oc.G8 O hb;rw[T.2.1]at hb;rw[E.2.1]at hb;first|omega|(dsimp only;omega))),M,M,M,(by(unfold simM;refine Oc.no E ?_;rw[←E.1,←E.2.1];refine Oc.no T ?_;rw[←T.1,←T.2.1];(try dsimp only at O);refine Oc.seq O ?_;refine Oc.yes a9 ?_;rw[ce a9 M];(try dsimp only at bf);refine Oc.seq bf ?_;(try dsimp only at bl);refine Oc.seq bl ?_;(try dsimp only at bn);refine Oc.seq bn ?_;(try dsimp only at a3);first|exact a3|(refine Oc.seq a3 ?_;exact Oc.val M (λ_=>by(simp only[ExpT.eta]<;>rfl)))))⟩)
 have U:=g0 dt;refine ab (zm (pT ar 0) (zc (pa.aM ts ex _ _ (.mk (g_ ax V) bb)) ?_));rintro _ qF ⟨qd,hy,kl,qq,d6,a8,rfl,h7,h8,Z,d2,n2,o2,px,al⟩;replace a8:=ax.bO a8;refine ai 3 V (ab (zm (pT ar 0) (zc (pb.atCall_c ts ex _ (.mk (g_ a8 V) Z)) ?_)));rintro _ qG ⟨q9,qr,b2,aA,rfl,rfl⟩;replace aA:=a8.bO aA;have Z:=Z.ac b2;refine ai 1 V (zI 1 2 (λd1=>?_) λd1=>?_)
 ·refine ab (zm (pT ar 0) (zc (pa.mH ts ex _ (.mk (g_ aA V) Z)) ?_));rintro _ qH ⟨rc,qe,hz,kn,qs,g4,b6,rfl,h9,ia,e7,go,n3,o4,pA,bt⟩;replace b6:=aA.bO b6;refine sgo 4 2 39 40 [] [] (Hr_ 3 2 (Hr_ 5 2 Hn_)) b6 V V λp0 qI em=>ai 2 V (ab (zm (pT ar 0) (zc (args_c ts ex _ (.mk (g_ em V) e7)) ?_)))
  rintro _ qJ ⟨m3,p6,k7,qf,hA,kt,b9,g5,b7,rfl,fi,ik,it,e8,n4,o6,pS,a4⟩;replace b7:=em.bO b7;refine sgo 2 2 43 43 [] [] (Hr_ 3 2 Hn_) b7 V V λp1 qK he=>ai 2 V (sgr 1 44 44 [] [] (Hr_ 0 2 (Hr_ 1 1 Hn_)) he V V λp2 qL et=>ag ⟨.inr V,_,(rC V (bV V V (i_ et V) V) rN),(⟨6,_,_,0,(⟨0,0,_,0,([]:List ExpT)⟩:ExpT),(⟨0,0,_,0,([]:List ExpT)⟩:ExpT),k7,([]:List StmT),([]:List StmT)⟩:StmT),_,0,_,0,_,_,_,0,_,0,_,_,_,_,(fT (fT (fT (fT (fT (fT (fT (ba) cL) bF) b0) d6) b2) g4) g5),(HS.G9 et),V,M,M,M,M,M,M,M,M,(SR.nil:SR b9 _ _),(SR.nil:SR b9 _ _),fi,(SR.nil:SR b9 _ _),(SR.nil:SR b9 _ _),M,M,e8,(by(intro hb;(try dsimp only at hb);replace hb:=Oc.G8 a4 hb;have q6:=go hb;replace hb:=Oc.G8 bt hb;have hK:=d2 hb;replace hb:=Oc.G8 al hb;rw[U.2.1]at hb;have fu:=bw hb;replace hb:=Oc.G8 O hb;rw[T.2.1]at hb;rw[E.2.1]at hb;first|omega|(dsimp only;omega))),M,M,M,(by(unfold simM;refine Oc.no E ?_;rw[←E.1,←E.2.1];refine Oc.no T ?_;rw[←T.1,←T.2.1];(try dsimp only at O);refine Oc.seq O ?_;refine Oc.no U ?_;rw[←U.1,←U.2.1];(try dsimp only at al);refine Oc.seq al ?_;refine Oc.iteT (λ_=>acB_t X d1) ?_;(try dsimp only at bt);refine Oc.seq bt ?_;(try dsimp only at a4);first|exact a4|(refine Oc.seq a4 ?_;exact Oc.val M (λ_=>by rfl))))⟩)
 refine ab (zm (pT ar 0) (zc (pc.fO ts ex _ (.mk (g_ aA V) Z)) ?_));rintro _ qM ⟨k8,hF,k3,qg,hB,kx,ch,g6,b8,rfl,ho,hp,hq,c9,iv,i0,fb,n5,o8,pU,a5⟩;replace b8:=aA.bO b8;refine sgo 2 2 47 47 [] [] (Hr_ 3 2 Hn_) b8 V V λp3 qN hf=>ai 2 V (sgr 1 48 48 [] [] (Hr_ 0 2 (Hr_ 1 1 Hn_)) hf V V λp4 qO ez=>ag ⟨.inr V,_,(rC V (bV V V (i_ ez V) V) rN),(⟨1,_,_,0,(⟨0,0,_,0,([]:List ExpT)⟩:ExpT),(⟨_,_,⟨k8.pp.b⟩,_,_⟩:ExpT),([]:List ExpT),([]:List StmT),([]:List StmT)⟩:StmT),_,0,_,_,_,0,_,0,_,0,_,_,_,_,(fT (fT (fT (fT (fT (fT (ba) cL) bF) b0) d6) b2) g6),(HS.G9 ez),V,M,M,M,M,M,M,M,M,(SR.nil:SR ch _ _),c9,(SR.nil:SR ch _ _),(SR.nil:SR ch _ _),(SR.nil:SR ch _ _),M,M,fb,(by(intro hb;(try dsimp only at hb);replace hb:=Oc.G8 a5 hb;have hK:=d2 hb;replace hb:=Oc.G8 al hb;rw[U.2.1]at hb;have fu:=bw hb;replace hb:=Oc.G8 O hb;rw[T.2.1]at hb;rw[E.2.1]at hb;first|omega|(dsimp only;omega))),M,M,M,(by(unfold simM;refine Oc.no E ?_;rw[←E.1,←E.2.1];refine Oc.no T ?_;rw[←T.1,←T.2.1];(try dsimp only at O);refine Oc.seq O ?_;refine Oc.no U ?_;rw[←U.1,←U.2.1];(try dsimp only at al);refine Oc.seq al ?_;refine Oc.Gl (λhb=>acB_f X hb d1) ?_;(try dsimp only at a5);first|exact a5|(refine Oc.seq a5 ?_;exact Oc.val M (λ_=>by(simp only[ExpT.eta]<;>rfl)))))⟩)
end pd
open pd
namespace pe
theorem bad_or{b:Bool}{P:Prop}(h:b=false->P):b=true\/P:=by
 cases b with
 |false=>exact .inr (h V)
 |true=>exact .inl V
theorem lh{L:Nat}{i j:Int}{b c:Bool}(O:0<=i)(hb:b=false)(T:i<=j/\j<=(L:Int))(E:c=false->i<j):2 *(L-j.toNat)+(!c).toNat<2 *(L-i.toNat)+(!b).toNat:=by
 cases c with
 |false=>have:=E V;rw[hb];show _+1<_+1;omega
 |true=>rw[hb];show _+0<_+1;omega
variable (ts:List Token)
variable (ex:FuncId) {F:Fz} {H:Heap} {R:List Fp}
abbrev Po7(F:Fz)(H:Heap)(b_r:Nat)(R:List Fp)(Φ:Nat->List StmT->RdrT->Prop)(v:Value)(H':Heap):Prop:= ∃ax,∃(kx:Nat) (x:List StmT) (r':RdrT),∃am_0,∃(km_0:Nat),∃F',F.le F'/\HS (.of H [b_r]) F' H' [[(b_r,.cells [(sL am_0 (Q r'.l) km_0),(iI r'.G2),(iI r'.E),(.bool r'.Gf)] none false)]] R/\v=sL ax (Q x) kx/\SR F' (sL ax (Q x) kx) x/\in64 r'.G2/\in64 r'.E/\SR F' (sL am_0 (Q r'.l) km_0) r'.l/\Φ kx x r'
def StmAll(ex:FuncId)(N:Nat):Prop:=
 (∀{T:Option Addr} {U:Nat} {O:Nat} (r:RdrT) {F:Fz} {H:Heap} {R:List Fp} (Z:pa.Pr1 H O F T r U R ts) (hm:2 *(Q ts-r.G2.toNat)+1<N),C Tryz.prog 0 (KX ex) 84 [(pT O 0)] H (pd.Po6 F H O R λx E=>(E.Gf=false->r.G2<E.G2)/\(E.l=ts)/\(r.G2<=E.G2/\E.G2<=(Q ts:Int))/\(E.E=r.E)/\(Oc (λn=>stmM ts n r.G2.toNat) r.Gf r.G2 x E.G2 E.Gf)))/\
 (∀{T:Option Addr} {U:Nat} {O:Nat} (r:RdrT) {F:Fz} {H:Heap} {R:List Fp} (Z:pa.Pr1 H O F T r U R ts) (hm:2 *(Q ts-r.G2.toNat)<N),C Tryz.prog 0 (KX ex) 118 [(pT O 0)] H (Po7 F H O R λ_ x E=>(E.l=ts)/\(r.G2<=E.G2/\E.G2<=(Q ts:Int))/\(E.E=r.E)/\(Oc (λn=>blkM ts n r.G2.toNat) r.Gf r.G2 x E.G2 E.Gf)))
theorem oE{e4 f4 ar}(r:RdrT)(h0:pa.Pr1 H ar F e4 r f4 R ts)(N:Nat)(ih:StmAll ts ex N)(hm:2 *(Q ts-r.G2.toNat)+1<N+1):kKt ex 84 [(pT ar 0)] H (pd.Po6 F H ar R λx r'=>(r'.Gf=false->r.G2<r'.G2)/\(r'.l=ts)/\(r.G2<=r'.G2/\r'.G2<=(Q ts:Int))/\(r'.E=r.E)/\(Oc (λn=>stmM ts n r.G2.toNat) r.Gf r.G2 x r'.G2 r'.Gf)):=by
 have⟨hs,mv,qo,qp,qs,hts,qq,qr⟩:=h0;refine ay Tryz.func84 V V (aj 1 V (ab (zn hs V λb1 H2 e1=>ai 4 V (ab ?_))));refine zm (pT ar 0) (zc (pa.cI ts ex r _ (.mk (g_ e1 V) mv)) ?_);rintro _ H3 ⟨o3,e3,i0,ki,F3,ch,a7,rfl,i9,jw,co,rfl,ht,hr,pW,pZ,p2⟩;replace a7:=e1.bO a7;refine za _ (ai 1 V (zI 1 1 (λc4=>?_) λc4=>?_))
 ·have a3:=ht c4;refine ab (zm (pT ar 0) (zc (pd.mW ts ex e3 (.mk (g_ a7 V) co)) ?_));rintro _ H5 ⟨x5,i3,kn,h6,i1,kk,F5,e0,ci,rfl,hJ,hK,hQ,E,jA,j1,ee,pX,p0,p3,a5⟩;replace ci:=a7.bO ci;refine zm (pT ar 0) (zc (ih.2 h6 (.mk (g_ ci V) ee) M) ?_);rintro _ H6 ⟨ez,e2,x6,h7,i2,kl,F6,c8,d3,rfl,aA,j2,kd,em,pY,p1,p4,a6⟩;replace d3:=ci.bO d3;refine cu 1 4 12 12 [] [(12,(aG [_,_,_,_,_,_,_,_,_,_,_,_,_,_,_,_,_]))] Hn_ V V λ_=>zn d3 V λb8 H9 hS=>sgo 1 6 1 0 [] [] (Hr_ 6 2 Hn_) hS V V λmx o2 c9=>ai 3 V (ab (zm (pT ar 0) ?_))
  refine zc (pa.cI ts ex h7 _ (.mk (g_ c9 V) em)) ?_;rintro _ o4 ⟨p9,n1,hg,hT,cL,bb,a4,rfl,hu,hv,bF,rfl,fd,e8,kA,k8,l5⟩;replace a4:=c9.bO a4;replace E:=(E.ac c8).ac bb;have aA:=aA.ac bb;refine ai 1 V (zI 0 2 (λc3=>?_) λc3=>?_)
  ·have bt:=fd c3;refine ab (zm (pT ar 0) (zc (ih.2 _ (.mk (g_ a4 V) bF) M) ?_));rintro _ o6 ⟨kt,nc,h8,n2,hh,hV,et,b4,b5,rfl,d9,hw,hx,d4,k0,k9,ma,a8⟩;replace b5:=a4.bO b5;have⟨E,aA⟩:=M2 b4 E aA;refine sgo 2 2 17 17 [] [] (Hr_ 3 2 Hn_) b5 V V λm0 o7 f2=>ai 2 V (sgr 1 18 18 [] [] (Hr_ 0 2 (Hr_ 1 1 Hn_)) f2 V V λm1 o8 dk=>ag ⟨.inr V,_,(rC V (bV V V (i_ dk V) V) rN),(⟨3,_,_,0,(⟨0,0,_,0,([]:List ExpT)⟩:ExpT),(⟨_,_,⟨x5.pp.b⟩,_,_⟩:ExpT),([]:List ExpT),x6,h8⟩:StmT),_,0,_,_,_,0,ez,e2,_,_,_,_,_,_,(fT (fT (fT (fT (ch) e0) c8) bb) b4),(HS.G9 dk),V,M,M,M,M,M,M,M,M,(SR.nil:SR et _ _),E,(SR.nil:SR et _ _),aA,d9,M,M,d4,(by(intro hb;(try dsimp only at hb);replace hb:=Oc.G8 a8 hb;replace hb:=bt.1;have p5:=bt.2.2.1;replace hb:=Oc.G8 a6 hb;replace hb:=Oc.G8 a5 hb;replace hb:=a3.1;have g3:=a3.2.2.1;first|omega|(dsimp only;omega))),M,M,M,(by(refine Oc.Gj ?_ (λ_=>stmM.eq_2 ..);refine Oc.yes a3 ?_;rw[ce a3 M];(try dsimp only at a5);refine Oc.seq a5 ?_;(try dsimp only at a6);refine Oc.seq a6 ?_;refine Oc.yes bt ?_;rw[ce bt M];(try dsimp only at a8);first|exact a8|(refine Oc.seq a8 ?_;exact Oc.val M (λ_=>by(simp only[ExpT.eta]<;>rfl)))))⟩)
  have bl:=e8 c3;refine sgr 1 18 18 [] [] (Hr_ 0 2 (Hr_ 1 1 Hn_)) a4 V V λm2 o9 dn=>ag ⟨.inr V,_,(rC V (bV V V (i_ dn V) V) rN),(⟨3,_,_,0,(⟨0,0,_,0,([]:List ExpT)⟩:ExpT),(⟨_,_,⟨x5.pp.b⟩,_,_⟩:ExpT),([]:List ExpT),x6,([]:List StmT)⟩:StmT),_,0,_,_,_,0,ez,e2,_,0,_,_,_,_,(fT (fT (fT (ch) e0) c8) bb),(HS.G9 dn),V,M,M,M,M,M,M,M,M,(SR.nil:SR cL _ _),E,(SR.nil:SR cL _ _),aA,(SR.nil:SR cL _ _),M,M,bF,(by(intro hb;(try dsimp only at hb);rw[bl.2.1]at hb;replace hb:=Oc.G8 a6 hb;replace hb:=Oc.G8 a5 hb;replace hb:=a3.1;have g3:=a3.2.2.1;first|omega|(dsimp only;omega))),M,M,M,(by(refine Oc.Gj ?_ (λ_=>stmM.eq_2 ..);refine Oc.yes a3 ?_;rw[ce a3 M];(try dsimp only at a5);refine Oc.seq a5 ?_;(try dsimp only at a6);refine Oc.seq a6 ?_;refine Oc.no bl ?_;rw[←bl.1,←bl.2.1];exact Oc.val M (λ_=>by(simp only[ExpT.eta]<;>rfl))))⟩
 have a2:=hr c4;refine ab (zm (pT ar 0) (zc (pa.cI ts ex e3 _ (.mk (g_ a7 V) co)) ?_));rintro _ pi ⟨qa,n3,hj,hW,oo,c6,a1,rfl,hy,hz,b0,rfl,fi,fb,k3,ll,mf⟩;replace a1:=a7.bO a1;refine za _ (ai 1 V (zI 1 3 (λc5=>?_) λc5=>?_))
 ·have bw:=fi c5;refine ab (zm (pT ar 0) (zc (pd.mW ts ex _ (.mk (g_ a1 V) b0)) ?_));rintro _ pj ⟨h9,hp,h4,n4,hk,hX,ox,fk,bf,rfl,gm,go,g0,an,hA,hB,d5,k4,lr,mg,b2⟩;replace bf:=a1.bO bf;refine zm (pT ar 0) (zc (ih.2 _ (.mk (g_ bf V) d5) M) ?_);rintro _ pl ⟨kx,nn,ia,n5,hl,h1,c0,c7,b6,rfl,ea,hC,hD,d6,k5,lx,mm,a9⟩;replace b6:=bf.bO b6;have an:=an.ac c7;refine sgo 2 4 26 26 [] [] (Hr_ 5 1 Hn_) b6 V V λm3 pm dt=>ai 1 V (ag ⟨.inr V,_,(rC V (bV V V (i_ dt V) V) rN),(⟨4,_,_,0,(⟨0,0,_,0,([]:List ExpT)⟩:ExpT),(⟨_,_,⟨h9.pp.b⟩,_,_⟩:ExpT),([]:List ExpT),ia,([]:List StmT)⟩:StmT),_,0,_,_,_,0,_,_,_,0,_,_,_,_,(fT (fT (fT (ch) c6) fk) c7),(HS.G9 dt),V,M,M,M,M,M,M,M,M,(SR.nil:SR c0 _ _),an,(SR.nil:SR c0 _ _),ea,(SR.nil:SR c0 _ _),M,M,d6,(by(intro hb;(try dsimp only at hb);replace hb:=Oc.G8 a9 hb;replace hb:=Oc.G8 b2 hb;replace hb:=bw.1;have p6:=bw.2.2.1;rw[a2.2.1]at hb;first|omega|(dsimp only;omega))),M,M,M,(by(refine Oc.Gj ?_ (λ_=>stmM.eq_2 ..);refine Oc.no a2 ?_;rw[←a2.1,←a2.2.1];refine Oc.yes bw ?_;rw[ce bw M];(try dsimp only at b2);refine Oc.seq b2 ?_;(try dsimp only at a9);first|exact a9|(refine Oc.seq a9 ?_;exact Oc.val M (λ_=>by(simp only[ExpT.eta]<;>rfl)))))⟩)
 have bn:=fb c5;refine ab (zm (pT ar 0) (zc (pd.simple_c ts ex _ (.mk (g_ a1 V) b0)) ?_));rintro _ pv ⟨ik,hq,h5,f5,g8,f6,g9,f7,he,f9,hf,n6,hn,h2,o0,fq,b7,rfl,g1,g2,g4,g5,g6,g7,fu,f1,ax,O,T,U,Z,hF,hG,d7,e6,k6,lz,mp,b3⟩;replace b7:=a1.bO b7;refine zn b7 V λpV px f3=>sgo 1 3 1 0 [] [] (Hr_ 3 2 Hn_) f3 V V λm6 pA d1=>ai 2 V (ab (zm (pT ar 0) (zc (pa.aM ts ex _ _ (.mk (g_ d1 V) d7)) ?_)))
 rintro _ pS ⟨n7,ho,h3,o1,al,b9,rfl,hH,hI,d8,e7,k7,l3,ms,ba⟩;replace b9:=d1.bO b9;have⟨O,T,U,Z,ax⟩:=M5 al O T U Z ax;refine ai 2 V (sgr 1 31 31 [] [] (Hr_ 0 2 (Hr_ 1 1 Hn_)) b9 V V λm7 pU d2=>ag ⟨.inr V,_,(rC V (bV V V (i_ d2 V) V) rN),ik,_,_,_,_,_,_,_,_,_,_,_,_,_,_,(fT (fT (fT (ch) c6) fq) al),(HS.G9 d2),V,M,M,M,M,M,M,M,M,ax,O,T,U,Z,M,M,d8,(by(intro hb;(try dsimp only at hb);have p8:=e7 hb;replace hb:=Oc.G8 ba hb;have p7:=e6 hb;replace hb:=Oc.G8 b3 hb;rw[bn.2.1]at hb;rw[a2.2.1]at hb;first|omega|(dsimp only;omega))),M,M,M,(by(refine Oc.Gj ?_ (λ_=>stmM.eq_2 ..);refine Oc.no a2 ?_;rw[←a2.1,←a2.2.1];refine Oc.no bn ?_;rw[←bn.1,←bn.2.1];(try dsimp only at b3);refine Oc.seq b3 ?_;(try dsimp only at ba);first|exact ba|(refine Oc.seq ba ?_;exact Oc.val M (λ_=>by rfl))))⟩)
theorem block_c_s{c0 dt ar}(r:RdrT)(h0:pa.Pr1 H ar F c0 r dt R ts)(N:Nat)(ih:StmAll ts ex N)(hm:2 *(Q ts-r.G2.toNat)<N+1):kKt ex 118 [(pT ar 0)] H (Po7 F H ar R λ_ x r'=>(r'.l=ts)/\(r.G2<=r'.G2/\r'.G2<=(Q ts:Int))/\(r'.E=r.E)/\(Oc (λn=>blkM ts n r.G2.toNat) r.Gf r.G2 x r'.G2 r'.Gf)):=by
 have⟨hs,g9,h5,h6,ik,hts,ia,ie⟩:=h0;refine ay Tryz.func118 V V (aj 1 V (wr 2 [] 2 2 [] [(2,(sL _ 0 0))] trivial V V λ_=>ab (zm (pT ar 0) (zc (pa.aM ts ex r _ (.mk (g_ hs V) g9)) ?_))));rintro _ H2 ⟨f2,f3,f7,F2,e7,b0,rfl,f5,f6,b6,hv,ht,hu,hx,bl⟩;replace b0:=hs.bO b0;refine ai 2 V (wr 3 [] 1 0 [3] [(3,(sL _ 0 0))] trivial V V λ_=>?_);have fd:=HS.snoc b0;refine ak (λ(mm:Nat) f H'=> ∃(l:List StmT) (rr:RdrT),∃ax,∃(aA:Nat),∃Z T,∃(U:Nat),∃F',F2.le F'/\HS _ F' H' [[(ar,.cells [(S_ T rr.l U),(.int _ rr.G2),(.int _ rr.E),rr.Gf] _ _)],Z] R/\OZ F' ax l aA Z/\Sr F' T rr.l U/\aI f [(0,(pT ar 0)),(3,(S_ ax l aA))]/\mm=2 *(Q ts-rr.G2.toNat)+(!rr.Gf).toNat/\(rr.l=ts)/\(r.G2<=rr.G2/\rr.G2<=(Q ts:Int))/\(rr.E=r.E)/\((Q l:Int)<=rr.G2+1)/\(rr.Gf=false->r.G2<rr.G2)/\(rr.Gf=false->(Q l:Int)<=rr.G2)/\(∀x i9 b9,Oc (λn=>stsM ts n l rr.G2.toNat) rr.Gf rr.G2 x i9 b9->Oc (λn=>blkM ts n _) _ _ x i9 b9)) _ ⟨([]:List StmT),f2,_,0,[],_,_,_,fR,fd,(OS.nil:OS _ _ _ []),b6,f_,V,M,M,M,(by show((0:Nat):Int)<=_;omega),X,(by intro _;show((0:Nat):Int)<=_;omega),(by intro x9 i9 b9 h9;refine Oc.Gj ?_ (λ_=>blkM.eq_2 ..);(try dsimp only at bl);first|exact bl|(refine Oc.seq bl ?_;exact h9))⟩ ?_;rintro hD f4 H4 ⟨l,rr,ax,aA,Z,T,U,F4,b8,ba,E,O,ch,rfl,fb,hz,hA,hB,ci,co,hw⟩ fi;refine aw _ ch (λ_=>?_);clear ch;refine aj 2 V (dq 6 15 [] [(15,((!rr.Gf)&&(!(isB rr [125]))))] (λH'=> ∃F',F4.le F'/\HS (Base.of H [ar]) F' H' [(rZ ar rr T U),Z] R) ?_ ?_)
 ·refine ab (zm _ (ad (jH V) V V (ad (v:=(pT ar 3)) (bI V V) V V (ad (aU (i:=3) V V (h_ ba V) V V) V V (ad (bY V) V V ?_)))));refine zm (.bool (!rr.Gf)) (fg V V (λg8=>?_) (λg8=>?_))
  ·have b2:=g8;try simp only[BS]at b2
   refine zm (pT ar 0) (aC V g8 (zc (pa.is_c ts ex rr _ (.mk (g_ ba V) O)) ?_));rintro _ H9 ⟨o9,F9,e8,b1,rfl,rfl⟩;replace b1:=ba.bO b1;refine aC V g8 (ad (bY V) V V (ad (v:=(.bool (!(isB rr _)))) (aq V g8 V) V V (aB ?_)));exact ao ⟨V,⟨_,(fT fR e8),HS.sub b1 (List.Sublist.refl _)⟩,(by repeat' first|exact Lr|refine Lu V ?_),(agC (congrArg _ (show(!(isB rr _))=((!rr.Gf)&&(!(isB rr _))) by simp only[↓g8,BT])) agN)⟩
  have b2:=g8;try simp only[BS]at b2
  refine aK V g8 V (aK V g8 V (ad (v:=(.bool false)) (aH V g8 V) V V (aB ?_)));exact ao ⟨V,⟨_,fR,HS.sub ba (List.Sublist.refl _)⟩,(by repeat' first|exact Lr|refine Lu V ?_),(agC (congrArg _ (show false=((!rr.Gf)&&(!(isB rr _))) by simp only[↓g8,BT])) agN)⟩
 skip;rintro g7 H7 ⟨F7,a9,bb⟩;have⟨E,O⟩:=M2 a9 E O;refine aj 1 V (zI 2 5 (λa8=>?_) λa8=>?_)
 ·have b5:=a8.1;have hy:=ci b5;refine ab (wro 2 0 [] 16 17 [] [(16,(sL _ _ _)),(17,(pT ar 0))] trivial V V λ_=>zc (ih.1 rr (.mk (g_ bb V) O) M) ?_);rintro _ hn ⟨hG,e2,fu,d1,ee,d2,em,d3,et,d4,ez,hf,e0,fk,hj,bn,a6,rfl,d5,d6,d7,d8,d9,ea,c5,c6,bf,a2,a3,a4,a5,e3,e4,b3,g3,go,g1,g5,a1⟩;replace a6:=bb.bO a6;have E:=E.ac bn;refine zlo _ a6 V (RL.cs (StmT.mq bf a2 a3 a4 a5) RL.nl) V λhr hC hF ho c7 bF=>zao 1 E bF (OS.sv c7 bF (i:=2) V) V V V M λb7 cL f1 hp c8 dk=>za (sL b7 _ cL) (ai 2 V ?_)
  refine fi _ _ _ ?_ ⟨_,_,b7,cL,f1,_,_,_,(fT (fT (b8) a9) bn),(HS.sub dk (a06 _ _)),c8,b3,f_,V,M,M,M,(by rw[a00,a0v];have q:=co b5;omega),(by intro hb;have:=ci b5;omega),(by intro hb;rw[a00,a0v];have q:=co b5;have q2:=(by assumption:_=false->rr.G2<_) hb;omega),(by intro x9 i9 b9 h9;refine hw _ _ _ ?_;refine Oc.Gj ?_ (λ_=>stsM.eq_2 ..);refine Oc.Gl (λhb=>is_f fb hb a8.2) ?_;(try dsimp only at a1);first|exact a1|(refine Oc.seq a1 ?_;exact h9))⟩;exact lh M b5 M X
 have hK:=bad_or a8;refine ab (zm (pT ar 0) (zc (pa.aM ts ex rr _ (.mk (g_ bb V) O)) ?_));rintro _ hq ⟨hg,e1,fq,hk,bt,a7,rfl,e5,e6,an,g4,g0,g2,g6,c3⟩;replace a7:=bb.bO a7;have E:=E.ac bt;refine ai 2 V (wr 1 [] 2 2 [23] [(2,(sL _ _ _))] trivial V V λ_=>?_);have⟨hl,bw,dn,c9,he⟩:=OS.Gi E a7 (i:=1) V;have an:=an.ac bw;refine ag ⟨.inr V,_,V,_,_,l,_,_,_,_,(fT (fT (fT (fT (e7) b8) a9) bt) bw),(HS.G9 dn),V,c9,M,M,an,M,M,M,(by(refine hw _ _ _ ?_;refine Oc.Gj ?_ (λ_=>stsM.eq_2 ..);exact Oc.blk hK X M c3))⟩
theorem kQ(ex:FuncId): ∀N,StmAll ts ex N
 |0=>⟨by intros;omega,by intros;omega⟩
 |N+1=>⟨by intros;apply oE ts ex (N:=N) (ih:=kQ ex N)<;>assumption,by intros;apply block_c_s ts ex (N:=N) (ih:=kQ ex N)<;>assumption⟩
theorem gL{E O Z}(r:RdrT)(T:pa.Pr1 H Z F E r O R ts):kKt ex 84 [(pT Z 0)] H (pd.Po6 F H Z R λx U=>(U.Gf=false->r.G2<U.G2)/\(U.l=ts)/\(r.G2<=U.G2/\U.G2<=(Q ts:Int))/\(U.E=r.E)/\(Oc (λn=>stmM ts n r.G2.toNat) r.Gf r.G2 x U.G2 U.Gf)):=by apply(kQ ts ex (2 *(Q ts-r.G2.toNat)+1+1)).1<;>first|assumption|exact a0y _
end pe
open pe
namespace pf
theorem ol{α:Type}{b c:Bool}{p:Prop}{i j:Int}{x:α}(q:b=false/\p/\j=i+1/\c=false)(h:0<=i):Oc (λ_=> .ok (x,i.toNat+1)) c j x j c:=by rw[ce q h];exact Oc.val (by have:=q.2.2.1;omega) (λ_=>rfl)
theorem Oc.Gf{α:Type}{f:Nat->Rs α}{b:Bool}{i:Int}{x:α}(h:b=true):Oc f b i x i b:=⟨λ_=>⟨h,V⟩,λk=>by rw[h]at k;cases k⟩
theorem no_k{ts:List Token}{i j:Int}{b c:Bool}{s:List UInt8}(q:j=i/\c=b/\(b=false->¬isK ts i.toNat s=true)):c=false->¬isK ts j.toNat s=true:=by obtain⟨rfl,rfl,h⟩:=q;exact h
variable (ts:List Token)
variable (ex:FuncId) {F:Fz} {H:Heap} {R:List Fp}
theorem function_c{tS uY ar}(r:RdrT)(h0:pa.Pr1 H ar F tS r uY R ts):kKt ex 42 [(pT ar 0)] H λv H'=> ∃(x:FunT),∃q4,∃(sw:Nat),∃q5,∃(sx:Nat),∃q6,∃(sC:Nat),∃q7,∃(sD:Nat) (r':RdrT),∃qY,∃(sk:Nat),∃F',F.le F'/\HS (.of H [ar]) F' H' [(rZ ar r' qY sk)] R/\v= .agg ⟨[tX x.pp.b,sL q4 (Q x.A) sw,sL q5 (Q x.B) sx,sL q6 (Q x.G6) sC,iI x.val.j,iI x.val.n,tX x.val.pp.b,iI x.val.op,sL q7 (Q x.val.I) sD]⟩/\in64 x.val.j/\in64 x.val.n/\in64 x.val.op/\Sr F' q4 x.A sw/\Sr F' q5 x.B sx/\Sr F' q6 x.G6 sC/\Sr F' q7 x.val.I sD/\in64 r'.G2/\in64 r'.E/\Sr F' qY r'.l sk/\(r'.l=ts)/\(r.G2<=r'.G2/\r'.G2<=(Q ts:Int))/\(r'.E=r.E)/\(Oc (λn=>funM ts n r.G2.toNat) r.Gf r.G2 x r'.G2 r'.Gf):=by
 have⟨hs,GG,HM,HN,IU,hts,IS,IT⟩:=h0;refine ay Tryz.func42 V V (aj 1 V (ab (zn hs V λb1 H2 tL=>ai 2 V (ab ?_))));refine zm (pT ar 0) (zc (pa.mH ts ex r (.mk (g_ tL V) GG)) ?_);rintro _ H3 ⟨x3,zR,zX,AD,F3,ez,rQ,rfl,Ax,Ay,tI,FT,FN,FQ,FV,a5⟩;replace rQ:=tL.bO rQ;refine cu 1 2 6 6 [] [(6,(aG [_,_,_,_,_,_,_,_,_]))] Hn_ V V λ_=>zn rQ V λb5 H6 y5=>sgo 1 4 1 0 [] [] (Hr_ 4 2 Hn_) y5 V V λFZ H7 tM=>ai 2 V (ab (zm (pT ar 0) ?_))
 refine zc (pa.aM ts ex zR _ (.mk (g_ tM V) tI)) ?_;rintro _ H8 ⟨qt,zY,AE,F8,e0,qq,rfl,Az,AA,d1,FU,FO,FR,FX,a6⟩;replace qq:=tM.bO qq;refine ai 3 V (ab (zm (pT ar 0) (zc (pa.is_c ts ex qt _ (.mk (g_ qq V) d1)) ?_)));rintro _ H9 ⟨o9,F9,dn,g7,rfl,rfl⟩;replace g7:=qq.bO g7;have d1:=d1.ac dn;refine wro 1 2 [] 11 11 [] [(11,(!(isB qt _)))] trivial V V λ_=>ai 1 V (zI 0 2 (λc7=>?_) λc7=>?_)
 ·refine ab (zm (pT ar 0) (zc (pb.names_c ts ex qt (.mk (g_ g7 V) d1)) ?_));rintro _ EK ⟨ll,p1,k5,DW,xo,y9,D7,hr,o1,rfl,O,xT,xU,sM,Bh,BQ,CP,hf⟩;replace o1:=g7.bO o1;refine sgo 2 2 14 14 [] [] (Hr_ 3 2 Hn_) o1 V V λDo EL rM=>ai 2 V (ab (zm (pT ar 0) (zc (pa.aM ts ex _ _ (.mk (g_ rM V) sM)) ?_)))
  rintro _ EM ⟨DX,xp,zb,D8,e4,h8,rfl,xV,xW,sN,Cu,Bi,BR,CQ,bl⟩;replace h8:=rM.bO h8;refine ai 3 V (ab (zm (pT ar 0) (zc (pa.cI ts ex _ _ (.mk (g_ h8 V) sN)) ?_)));rintro _ EN ⟨F4,u4,xq,ze,D9,e5,d8,rfl,xX,xY,kx,rfl,t3,tY,Bj,BU,CR⟩;replace d8:=h8.bO d8;replace O:=(O.ac e4).ac e5;refine ai 1 V (zI 0 2 (λq8=>?_) λq8=>?_)
  ·have jw:=t3 q8;refine ab (zm (pT ar 0) (zc (pb.names_c ts ex _ (.mk (g_ d8 V) kx)) ?_));rintro _ EP ⟨Bf,DQ,tN,DY,xr,zf,Ea,mx,o2,rfl,a3,xZ,x0,sP,Bk,BW,CS,re⟩;replace o2:=d8.bO o2;refine sgo 2 2 21 21 [] [] (Hr_ 3 2 Hn_) o2 V V λDp EQ rO=>ai 2 V (ab (zm (pT ar 0) (zc (pa.aM ts ex _ _ (.mk (g_ rO V) sP)) ?_)))
   rintro _ ES ⟨f3,qO,r8,xd,hx,o3,rfl,x1,x2,sQ,Cv,Bl,BX,CT,hh⟩;replace o3:=rO.bO o3;refine ai 3 V ?_;have uE:=HS.snoc o3;refine ak (λ(mm:Nat) f H'=> ∃(l:List StmT) (rr:RdrT),∃ch,∃(c4:Nat),∃b6 b3,∃(b4:Nat),∃F',xd.le F'/\HS _ F' H' [[(ar,.cells [(S_ ch rr.l c4),(.int _ rr.G2),(.int _ rr.E),rr.Gf] _ _)],[(b1,.cells [(tX []),_,_,_,_,_,(tX []),_,_] _ _)],[(b5,.cells [_,_,_,(S_ b3 l b4),_,_,_,_,_] _ _)],b6] R/\Sr F' ch rr.l c4/\OZ F' b3 l b4 b6/\aI f [(0,(pT ar 0)),(2,(pT b1 0)),(3,(pT b5 0))]/\mm=2 *(Q ts-rr.G2.toNat)+(!rr.Gf).toNat/\(rr.l=ts)/\(f3.G2<=rr.G2/\rr.G2<=(Q ts:Int))/\(rr.E=r.E)/\((Q l:Int)<=rr.G2+1)/\(rr.Gf=false->(Q l:Int)<=rr.G2)/\(∀x i9 b9,Oc (λn=>nu ts n l rr.G2.toNat) rr.Gf rr.G2 x i9 b9->Oc (λn=>nu ts n [] (f3.G2).toNat) f3.Gf f3.G2 x i9 b9)) _ ⟨([]:List StmT),f3,qO,r8,[],none,0,_,fR,uE,sQ,(OS.nil:OS _ N_ ([]:List StmT) []),f_,V,M,M,M,(by show((0:Nat):Int)<=_;omega),(by intro _;show((0:Nat):Int)<=_;omega),(by intro x9 i9 b9 h9;exact h9)⟩ ?_;rintro DR FP ET ⟨l,rr,ch,c4,b6,b3,b4,Eb,e6,fu,g2,T,rF,rfl,rI,rJ,rK,rL,bt,hw⟩ uU;refine aw _ rF (λ_=>?_);clear rF;replace O:=((O.ac mx).ac hx).ac e6;replace a3:=(a3.ac hx).ac e6;refine aj 2 V (ab (zm _ (ad (jH V) V V (ad (v:=(pT ar 3)) (bI V V) V V (ad (aU (i:=3) V V (h_ fu V) V V) V V ?_)))));refine ad (bY V) V V (zm (.bool (!rr.Gf)) (fg V V (λc8=>?_) (λc8=>?_)))
   ·have p6:=c8;try simp only[BS]at p6
    refine zm (pT ar 0) (aC V c8 (zc (pa.cI ts ex rr _ (.mk (g_ fu V) g2)) ?_));rintro _ EU ⟨F5,DZ,xt,zg,Ec,e7,bw,rfl,x4,x5,kA,rfl,t4,tZ,Bm,BY,CU⟩;replace bw:=fu.bO bw;have⟨O,a3,T⟩:=M3 e7 O a3 T;refine aC V c8 (ad (bY V) V V (ad (v:=(.bool (!(kwB rr _)))) (aq V c8 V) V V (aB (aj 1 V (zI 2 5 (λq9=>?_) λq9=>?_)))))
    ·have p3:=tZ q9;refine az V (cC 3 34 36 [] [(35,(sL _ _ _)),(36,(pT ar 0))] (Hr_ 1 2 Hn_) bw V V λ_=>wcD [ar] (j:=0) bw V V (pe.gL ts ex _ (.mk (HS.Gh bw.G5 (i:=0) V) kA)) V V (⟨.inl V,.inr (HS.nin bw (i:=2) (j:=0) V V e_ (List.Mem.head _)),l_⟩) ?_);rintro _ EV ⟨Ge,xO,zJ,vB,wY,vC,wZ,vD,w2,vE,w4,D0,xu,zh,Ed,rz,o4,rfl,v6,v7,v8,v9,wb,wc,uk,ul,qz,nc,nn,n1,n2,x6,x7,sR,Cw,Bn,BZ,CV,lz⟩;refine⟨_,_,_,o4,λA5 o4=>?_⟩;have T:=T.ac rz;refine zld _ o4 V (RL.cs (StmT.mq qz nc nn n1 n2) RL.nl) V λFK F0 Gb A6 us rP=>zad 3 T rP (OS.sv us rP (i:=4) V) V V V M (kb V) λxl y6 zO A7 ut uF=>sdo 2 40 40 [] [] (Hr_ 7 2 Hn_) uF V V λDq EW uG=>aQ 2 V ?_
     refine uU _ _ _ ?_ ⟨_,_,_,_,zO,xl,y6,_,(fT (fT (e6) e7) rz),(HS.sub uG (a06 _ _)),sR,ut,f_,V,M,M,M,(by rw[a00,a0v];have q:=bt X;omega),(by intro hb;rw[a00,a0v];have q:=bt X;have q2:=(by assumption:_=false->_<_) hb;omega),(by intro x9 i9 b9 h9;refine hw _ _ _ ?_;refine Oc.Gj ?_ (λ_=>nu.eq_2 ..);refine Oc.no p3 ?_;rw[←p3.1,←p3.2.1];(try dsimp only at lz);first|exact lz|(refine Oc.seq lz ?_;exact h9))⟩;exact lh M X M (λh=>by have q2:=(by assumption:_=false->_<_) h;omega)
    have sE:=t4 q9;refine ab (zm (pT ar 0) (zc (pc.fO ts ex _ (.mk (g_ bw V) kA)) ?_));rintro _ EX ⟨zS,xP,zK,D1,xv,zj,Ee,hy,o6,rfl,wd,we,wg,d2,x8,ya,sS,Bo,B0,CW,rf⟩;replace o6:=bw.bO o6;refine sgo 2 2 43 43 [] [] (Hr_ 3 2 Hn_) o6 V V λDr EY rR=>ai 2 V (ab (zm (pT ar 0) (zc (pa.aM ts ex _ _ (.mk (g_ rR V) sS)) ?_)))
    rintro _ EZ ⟨D2,xw,zk,Ef,e8,ia,rfl,yb,yc,sT,Cx,Bp,B1,CX,rg⟩;replace ia:=rR.bO ia;refine ai 2 V (ab (zm (pT ar 0) (zc (pa.aM ts ex _ _ (.mk (g_ ia V) sT)) ?_)));rintro _ E0 ⟨D3,xx,zo,Eg,fb,o7,rfl,yd,ye,f7,Cy,Bq,B2,CY,l3⟩;replace o7:=ia.bO o7;replace T:=((T.ac hy).ac e8).ac fb;refine ai 2 V (sgr 1 48 48 [] [] (Hr_ 0 2 (Hr_ 1 1 Hn_)) o7 V V λDs E1 rS=>?_);have⟨Eh,fd,uH,uy,DJ⟩:=OS.Gi T rS (i:=3) V;replace O:=(((O.ac hy).ac e8).ac fb).ac fd;replace a3:=(((a3.ac hy).ac e8).ac fb).ac fd;replace d2:=((d2.ac e8).ac fb).ac fd;have f7:=f7.ac fd;refine ag ⟨.inr V,_,(rC V (bV V V (i_ rS V) V) rN),(⟨_,k5,tN,l,(⟨_,_,⟨zS.pp.b⟩,_,_⟩:ExpT)⟩:FunT),_,_,_,_,_,_,_,_,_,_,_,_,(fT (fT (fT (fT (fT (fT (fT (fT (fT (fT (fT (fT (fT (ez) e0) dn) hr) e4) e5) mx) hx) e6) e7) hy) e8) fb) fd),(HS.G9 uH),V,M,M,M,O,a3,uy,d2,M,M,f7,M,M,M,(by(unfold funM;(try dsimp only at a5);refine Oc.seq a5 ?_;(try dsimp only at a6);refine Oc.seq a6 ?_;refine Oc.seq (Oc.Gl (λhb=>is_f X hb c7) hf) ?_;(try dsimp only at bl);refine Oc.seq bl ?_;refine Oc.seq (Oc.yes jw (by rw[ce jw M];exact re)) ?_;(try dsimp only at hh);refine Oc.seq hh ?_;refine Oc.seq (hw l _ _ (Oc.Gj (Oc.yes sE (ol sE M)) (λ_=>nu.eq_2 ..))) ?_;(try dsimp only at rf);refine Oc.seq rf ?_;(try dsimp only at rg);refine Oc.seq rg ?_;(try dsimp only at l3);first|exact l3|(refine Oc.seq l3 ?_;exact Oc.val M (λ_=>by(simp only[ExpT.eta]<;>rfl)))))⟩
   have p6:=c8;try simp only[BS]at p6
   refine aK V c8 V (aK V c8 V (ad (v:=(.bool false)) (aH V c8 V) V V (aB (aj 1 V (nz 5 V V V V ?_)))));refine ab (zm (pT ar 0) (zc (pc.fO ts ex rr (.mk (g_ fu V) g2)) ?_));rintro _ E2 ⟨zT,xQ,zL,D4,xy,zq,Ei,hz,o8,rfl,wh,wi,wl,d3,yf,yg,sU,Br,B3,CZ,rh⟩;replace o8:=fu.bO o8;refine sgo 2 2 43 43 [] [] (Hr_ 3 2 Hn_) o8 V V λDt E3 rU=>ai 2 V (ab (zm (pT ar 0) (zc (pa.aM ts ex _ _ (.mk (g_ rU V) sU)) ?_)))
   rintro _ E4 ⟨D5,xz,zr,Ej,fi,ik,rfl,yh,yi,sV,Cz,Bs,B4,C0,ri⟩;replace ik:=rU.bO ik;refine ai 2 V (ab (zm (pT ar 0) (zc (pa.aM ts ex _ _ (.mk (g_ ik V) sV)) ?_)));rintro _ E5 ⟨D6,xA,zs,Ek,fk,pi,rfl,yj,yk,f9,CA,Bt,B5,C1,l5⟩;replace pi:=ik.bO pi;replace T:=((T.ac hz).ac fi).ac fk;refine ai 2 V (sgr 1 48 48 [] [] (Hr_ 0 2 (Hr_ 1 1 Hn_)) pi V V λDu E6 rV=>?_);have⟨El,fq,uI,uz,DK⟩:=OS.Gi T rV (i:=3) V;replace O:=(((O.ac hz).ac fi).ac fk).ac fq;replace a3:=(((a3.ac hz).ac fi).ac fk).ac fq;replace d3:=((d3.ac fi).ac fk).ac fq;have f9:=f9.ac fq;refine ag ⟨.inr V,_,(rC V (bV V V (i_ rV V) V) rN),(⟨_,k5,tN,l,(⟨_,_,⟨zT.pp.b⟩,_,_⟩:ExpT)⟩:FunT),_,_,_,_,_,_,_,_,_,_,_,_,(fT (fT (fT (fT (fT (fT (fT (fT (fT (fT (fT (fT (ez) e0) dn) hr) e4) e5) mx) hx) e6) hz) fi) fk) fq),(HS.G9 uI),V,M,M,M,O,a3,uz,d3,M,M,f9,M,M,M,(by(unfold funM;(try dsimp only at a5);refine Oc.seq a5 ?_;(try dsimp only at a6);refine Oc.seq a6 ?_;refine Oc.seq (Oc.Gl (λhb=>is_f X hb c7) hf) ?_;(try dsimp only at bl);refine Oc.seq bl ?_;refine Oc.seq (Oc.yes jw (by rw[ce jw M];exact re)) ?_;(try dsimp only at hh);refine Oc.seq hh ?_;refine Oc.seq (hw l _ _ (Oc.Gf X)) ?_;(try dsimp only at rh);refine Oc.seq rh ?_;(try dsimp only at ri);refine Oc.seq ri ?_;(try dsimp only at l5);first|exact l5|(refine Oc.seq l5 ?_;exact Oc.val M (λ_=>by(simp only[ExpT.eta]<;>rfl)))))⟩
  have ea:=tY q8;refine ab (zm (pT ar 0) (zc (pa.aM ts ex u4 [123] (.mk (g_ d8 V) kx)) ?_));rintro _ E7 ⟨f4,qP,r9,xe,m0,pj,rfl,yl,ym,sW,CB,Bu,B6,C2,hj⟩;replace pj:=d8.bO pj;refine ai 3 V ?_;have uJ:=HS.snoc pj;refine ak (λ(mm:Nat) f H'=> ∃(l:List StmT) (rr:RdrT),∃ci,∃(c5:Nat),∃b7 ax,∃(a1:Nat),∃F',xe.le F'/\HS (Base.of H [ar]) F' H' [(rZ ar rr ci c5),(fP b1 [(tX []),N_,N_,N_,(iI 0),(iI 0),(tX []),(iI 0),N_]),(fP b5 [(tX x3),(S_ ll k5 p1),N_,(S_ ax l a1),(iI 0),(iI 0),(tX []),(iI 0),N_]),b7] R/\Sr F' ci rr.l c5/\OZ F' ax l a1 b7/\aI f [(0,(pT ar 0)),(2,(pT b1 0)),(3,(pT b5 0))]/\mm=2 *(Q ts-rr.G2.toNat)+(!rr.Gf).toNat/\(rr.l=ts)/\(f4.G2<=rr.G2/\rr.G2<=(Q ts:Int))/\(rr.E=r.E)/\((Q l:Int)<=rr.G2+1)/\(rr.Gf=false->(Q l:Int)<=rr.G2)/\(∀x i9 b9,Oc (λn=>nu ts n l rr.G2.toNat) rr.Gf rr.G2 x i9 b9->Oc (λn=>nu ts n [] (f4.G2).toNat) f4.Gf f4.G2 x i9 b9)) _ ⟨([]:List StmT),f4,qP,r9,[],none,0,_,fR,uJ,sW,(OS.nil:OS _ N_ ([]:List StmT) []),f_,V,M,M,M,(by show((0:Nat):Int)<=_;omega),(by intro _;show((0:Nat):Int)<=_;omega),(by intro x9 i9 b9 h9;exact h9)⟩ ?_;rintro DS FS E8 ⟨l,rr,ci,c5,b7,ax,a1,En,hA,f1,g3,U,rG,rfl,rI,rJ,rK,rL,bt,hw⟩ uV;refine aw _ rG (λ_=>?_);clear rG;replace O:=(O.ac m0).ac hA;refine aj 2 V (ab (zm (pT ar 0) (ad (v:=(pT ar 0)) (jH V) V V (ad (v:=(pT ar 3)) (bI V V) V V (ad (v:=(.bool rr.Gf)) (aU (i:=3) V V (h_ f1 V) V V) V V ?_)))));refine ad (v:=(.bool (!rr.Gf))) (bY V) V V (zm (.bool (!rr.Gf)) (fg (v:=(!rr.Gf)) V V (λc9=>?_) (λc9=>?_)))
  ·have p7:=c9;try simp only[BS]at p7
   refine zm (pT ar 0) (aC V c9 (zc (pa.cI ts ex rr [114,101,116,117,114,110] (.mk (g_ f1 V) g3)) ?_));rintro _ E9 ⟨F6,sH,xB,zt,Eo,hB,bF,rfl,yn,yo,k0,rfl,t5,t0,Bv,B7,C3⟩;replace bF:=f1.bO bF;have⟨O,U⟩:=M2 hB O U;refine aC V c9 (ad (v:=(.bool (!(kwB rr [114,101,116,117,114,110])))) (bY V) V V (ad (v:=(.bool (!(kwB rr [114,101,116,117,114,110])))) (aq V c9 V) V V (aB (aj 1 V (zI 2 5 (λra=>?_) λra=>?_)))))
   ·have p4:=t0 ra;refine az V (cC 3 34 36 [] [(35,(S_ ax l a1)),(36,(pT ar 0))] (Hr_ 1 2 Hn_) bF V V λ_=>wcD [ar] (j:=0) bF V V (pe.gL ts ex sH (.mk (HS.Gh bF.G5 (i:=0) V) k0)) V V (⟨.inl V,.inr (HS.nin bF (i:=2) (j:=0) V V e_ (List.Mem.head _)),l_⟩) ?_);rintro _ Fa ⟨tO,xR,zM,vF,w5,vG,w6,vH,w7,vJ,w8,u5,qQ,sa,Ep,rA,pl,rfl,wn,wo,wq,wt,wu,wv,um,uo,qA,n3,n4,n5,n6,yp,yq,sX,CC,Bw,B8,C4,ma⟩;refine⟨_,_,_,pl,λA8 pl=>?_⟩;have U:=U.ac rA;refine zld [tO] pl V (RL.cs (StmT.mq qA n3 n4 n5 n6) RL.nl) V λFL F1 Gc A9 uu rW=>zad 3 U rW (OS.sv uu rW (i:=4) V) V V V M (kb V) λxm y7 zP Ba uv uK=>sdo 2 40 40 [] [] (Hr_ 7 2 Hn_) uK V V λDv Fb uL=>aQ 2 V ?_
    refine uV _ _ _ ?_ ⟨l++[tO],u5,qQ,sa,zP,xm,y7,_,(fT (fT (hA) hB) rA),(HS.sub uL (a06 _ _)),sX,uv,f_,V,M,M,M,(by rw[a00,a0v];have q:=bt X;omega),(by intro hb;rw[a00,a0v];have q:=bt X;have q2:=(by assumption:_=false->_<_) hb;omega),(by intro x9 i9 b9 h9;refine hw _ _ _ ?_;refine Oc.Gj ?_ (λ_=>nu.eq_2 ..);refine Oc.no p4 ?_;rw[←p4.1,←p4.2.1];(try dsimp only at ma);first|exact ma|(refine Oc.seq ma ?_;exact h9))⟩;exact lh M X M (λh=>by have q2:=(by assumption:_=false->_<_) h;omega)
   have sF:=t5 ra;refine ab (zm (pT ar 0) (zc (pc.fO ts ex sH (.mk (g_ bF V) k0)) ?_));rintro _ Fc ⟨k6,qZ,so,u6,xC,zu,Er,m1,pm,rfl,ww,wx,wy,d4,yr,yu,sY,Bx,B9,C5,rj⟩;replace pm:=bF.bO pm;refine sgo 2 2 43 43 [] [] (Hr_ 3 2 Hn_) pm V V λDx Fd rX=>ai 2 V (ab (zm (pT ar 0) (zc (pa.aM ts ex u6 [59] (.mk (g_ rX V) sY)) ?_)))
   rintro _ Fe ⟨u7,xD,zv,Es,hC,it,rfl,yv,yw,sZ,CD,By,Ca,C6,rk⟩;replace it:=rX.bO it;refine ai 2 V (ab (zm (pT ar 0) (zc (pa.aM ts ex u7 [125] (.mk (g_ it V) sZ)) ?_)));rintro _ Ff ⟨u9,qR,sb,Et,hD,pv,rfl,yx,yy,gm,CE,Bz,Cb,C7,mf⟩;replace pv:=it.bO pv;replace U:=((U.ac m1).ac hC).ac hD;refine ai 2 V (sgr 1 48 48 [] [] (Hr_ 0 2 (Hr_ 1 1 Hn_)) pv V V λDy Fg rY=>?_);have⟨xf,hF,uM,uA,DL⟩:=OS.Gi U rY (i:=3) V;replace O:=(((O.ac m1).ac hC).ac hD).ac hF;replace d4:=((d4.ac hC).ac hD).ac hF;have gm:=gm.ac hF;refine ag ⟨.inr V,_,(rC V (bV V V (i_ rY V) V) rN),(⟨⟨x3⟩,k5,([]:List Str),l,(⟨k6.j,k6.n,⟨k6.pp.b⟩,k6.op,k6.I⟩:ExpT)⟩:FunT),ll,p1,none,0,ax,a1,qZ,so,u9,qR,sb,_,(fT (fT (fT (fT (fT (fT (fT (fT (fT (fT (fT (fT (ez) e0) dn) hr) e4) e5) m0) hA) hB) m1) hC) hD) hF),(HS.G9 uM),V,M,M,M,O,(SR.nil:SR xf N_ ([]:List Str)),uA,d4,M,M,gm,M,M,M,(by(unfold funM;(try dsimp only at a5);refine Oc.seq a5 ?_;(try dsimp only at a6);refine Oc.seq a6 ?_;refine Oc.seq (Oc.Gl (λhb=>is_f X hb c7) hf) ?_;(try dsimp only at bl);refine Oc.seq bl ?_;rw[←ea.1,←ea.2.1];refine Oc.seq (Oc.Gl (no_k ea) (Oc.val M (λ_=>rfl))) ?_;(try dsimp only at hj);refine Oc.seq hj ?_;refine Oc.seq (hw l _ _ (Oc.Gj (Oc.yes sF (ol sF M)) (λ_=>nu.eq_2 ..))) ?_;(try dsimp only at rj);refine Oc.seq rj ?_;(try dsimp only at rk);refine Oc.seq rk ?_;(try dsimp only at mf);first|exact mf|(refine Oc.seq mf ?_;exact Oc.val M (λ_=>by(simp only[ExpT.eta]<;>rfl)))))⟩
  have p7:=c9;try simp only[BS]at p7
  refine aK V c9 V (aK V c9 V (ad (v:=(.bool false)) (aH V c9 V) V V (aB (aj 1 V (nz 5 (v:=false) V V V V ?_)))));refine ab (zm (pT ar 0) (zc (pc.fO ts ex rr (.mk (g_ f1 V) g3)) ?_));rintro _ Fh ⟨k7,q0,sr,va,xE,zw,Eu,m2,px,rfl,wz,wA,wB,d5,yz,yA,s0,BA,Cc,C8,rl⟩;replace px:=f1.bO px;refine sgo 2 2 43 43 [] [] (Hr_ 3 2 Hn_) px V V λDz Fi r0=>ai 2 V (ab (zm (pT ar 0) (zc (pa.aM ts ex va [59] (.mk (g_ r0 V) s0)) ?_)))
  rintro _ Fj ⟨vc,xF,zy,Ev,hG,iv,rfl,yB,yC,s1,CF,BB,Cd,C9,rm⟩;replace iv:=r0.bO iv;refine ai 2 V (ab (zm (pT ar 0) (zc (pa.aM ts ex vc [125] (.mk (g_ iv V) s1)) ?_)));rintro _ Fk ⟨vd,qS,sc,Ew,hH,pA,rfl,yD,yE,go,CG,BC,Ce,Da,mg⟩;replace pA:=iv.bO pA;replace U:=((U.ac m2).ac hG).ac hH;refine ai 2 V (sgr 1 48 48 [] [] (Hr_ 0 2 (Hr_ 1 1 Hn_)) pA V V λDA Fl r1=>?_);have⟨xg,hI,uN,uB,DM⟩:=OS.Gi U r1 (i:=3) V;replace O:=(((O.ac m2).ac hG).ac hH).ac hI;replace d5:=((d5.ac hG).ac hH).ac hI;have go:=go.ac hI;refine ag ⟨.inr V,_,(rC V (bV V V (i_ r1 V) V) rN),(⟨⟨x3⟩,k5,([]:List Str),l,(⟨k7.j,k7.n,⟨k7.pp.b⟩,k7.op,k7.I⟩:ExpT)⟩:FunT),ll,p1,none,0,ax,a1,q0,sr,vd,qS,sc,_,(fT (fT (fT (fT (fT (fT (fT (fT (fT (fT (fT (ez) e0) dn) hr) e4) e5) m0) hA) m2) hG) hH) hI),(HS.G9 uN),V,M,M,M,O,(SR.nil:SR xg N_ ([]:List Str)),uB,d5,M,M,go,M,M,M,(by(unfold funM;(try dsimp only at a5);refine Oc.seq a5 ?_;(try dsimp only at a6);refine Oc.seq a6 ?_;refine Oc.seq (Oc.Gl (λhb=>is_f X hb c7) hf) ?_;(try dsimp only at bl);refine Oc.seq bl ?_;rw[←ea.1,←ea.2.1];refine Oc.seq (Oc.Gl (no_k ea) (Oc.val M (λ_=>rfl))) ?_;(try dsimp only at hj);refine Oc.seq hj ?_;refine Oc.seq (hw l _ _ (Oc.Gf X)) ?_;(try dsimp only at rl);refine Oc.seq rl ?_;(try dsimp only at rm);refine Oc.seq rm ?_;(try dsimp only at mg);first|exact mg|(refine Oc.seq mg ?_;exact Oc.val M (λ_=>by(simp only[ExpT.eta]<;>rfl)))))⟩
 refine ab (zm (pT ar 0) (zc (pa.aM ts ex qt [41] (.mk (g_ g7 V) d1)) ?_));rintro _ Fm ⟨vf,xG,zz,Ey,hJ,i0,rfl,yF,yG,s2,CH,BD,Cf,Db,bn⟩;replace i0:=g7.bO i0;refine ai 3 V (ab (zm (pT ar 0) (zc (pa.cI ts ex vf [118,97,114] (.mk (g_ i0 V) s2)) ?_)));rintro _ Fo ⟨F7,sI,xH,zA,Ez,hK,d9,rfl,yH,yI,k3,rfl,t6,t1,BE,Cg,Dc⟩;replace d9:=i0.bO d9;refine ai 1 V (zI 0 2 (λrb=>?_) λrb=>?_)
 ·have jA:=t6 rb;refine ab (zm (pT ar 0) (zc (pb.names_c ts ex sI (.mk (g_ d9 V) k3)) ?_));rintro _ Fq ⟨lr,p2,tf,vg,xI,zB,EA,rB,pS,rfl,a4,yJ,yK,s3,BF,Ci,Dd,rn⟩;replace pS:=d9.bO pS;refine sgo 2 2 21 21 [] [] (Hr_ 3 2 Hn_) pS V V λDB Fs r2=>ai 2 V (ab (zm (pT ar 0) (zc (pa.aM ts ex vg [123] (.mk (g_ r2 V) s3)) ?_)))
  rintro _ Ft ⟨f5,qT,sd,xh,m3,pU,rfl,yL,yM,s4,CI,BG,Cj,De,hk⟩;replace pU:=r2.bO pU;refine ai 3 V ?_;have uO:=HS.snoc pU;refine ak (λ(mm:Nat) f H'=> ∃(l:List StmT) (rr:RdrT),∃co,∃(c6:Nat),∃b8 aA,∃(a2:Nat),∃F',xh.le F'/\HS (Base.of H [ar]) F' H' [(rZ ar rr co c6),(fP b1 [(tX []),N_,N_,N_,(iI 0),(iI 0),(tX []),(iI 0),N_]),(fP b5 [(tX x3),N_,(S_ lr tf p2),(S_ aA l a2),(iI 0),(iI 0),(tX []),(iI 0),N_]),b8] R/\Sr F' co rr.l c6/\OZ F' aA l a2 b8/\aI f [(0,(pT ar 0)),(2,(pT b1 0)),(3,(pT b5 0))]/\mm=2 *(Q ts-rr.G2.toNat)+(!rr.Gf).toNat/\(rr.l=ts)/\(f5.G2<=rr.G2/\rr.G2<=(Q ts:Int))/\(rr.E=r.E)/\((Q l:Int)<=rr.G2+1)/\(rr.Gf=false->(Q l:Int)<=rr.G2)/\(∀x i9 b9,Oc (λn=>nu ts n l rr.G2.toNat) rr.Gf rr.G2 x i9 b9->Oc (λn=>nu ts n [] (f5.G2).toNat) f5.Gf f5.G2 x i9 b9)) _ ⟨([]:List StmT),f5,qT,sd,[],none,0,_,fR,uO,s4,(OS.nil:OS _ N_ ([]:List StmT) []),f_,V,M,M,M,(by show((0:Nat):Int)<=_;omega),(by intro _;show((0:Nat):Int)<=_;omega),(by intro x9 i9 b9 h9;exact h9)⟩ ?_;rintro DT FY Fu ⟨l,rr,co,c6,b8,aA,a2,EB,hQ,f2,g4,Z,rH,rfl,rI,rJ,rK,rL,bt,hw⟩ uW;refine aw _ rH (λ_=>?_);clear rH;replace a4:=(a4.ac m3).ac hQ;refine aj 2 V (ab (zm (pT ar 0) (ad (v:=(pT ar 0)) (jH V) V V (ad (v:=(pT ar 3)) (bI V V) V V (ad (v:=(.bool rr.Gf)) (aU (i:=3) V V (h_ f2 V) V V) V V ?_)))));refine ad (v:=(.bool (!rr.Gf))) (bY V) V V (zm (.bool (!rr.Gf)) (fg (v:=(!rr.Gf)) V V (λdk=>?_) (λdk=>?_)))
  ·have p8:=dk;try simp only[BS]at p8
   refine zm (pT ar 0) (aC V dk (zc (pa.cI ts ex rr [114,101,116,117,114,110] (.mk (g_ f2 V) g4)) ?_));rintro _ Fv ⟨Ga,sJ,xJ,zC,EC,hS,b0,rfl,yN,yO,k4,rfl,t7,t2,BH,Ck,Df⟩;replace b0:=f2.bO b0;have⟨a4,Z⟩:=M2 hS a4 Z;refine aC V dk (ad (v:=(.bool (!(kwB rr [114,101,116,117,114,110])))) (bY V) V V (ad (v:=(.bool (!(kwB rr [114,101,116,117,114,110])))) (aq V dk V) V V (aB (aj 1 V (zI 2 5 (λrc=>?_) λrc=>?_)))))
   ·have p5:=t2 rc;refine az V (cC 3 34 36 [] [(35,(S_ aA l a2)),(36,(pT ar 0))] (Hr_ 1 2 Hn_) b0 V V λ_=>wcD [ar] (j:=0) b0 V V (pe.gL ts ex sJ (.mk (HS.Gh b0.G5 (i:=0) V) k4)) V V (⟨.inl V,.inr (HS.nin b0 (i:=2) (j:=0) V V e_ (List.Mem.head _)),l_⟩) ?_);rintro _ Fw ⟨tP,xS,zN,vK,w9,vM,xa,vN,xb,vO,xc,vh,qU,se,ED,rD,pV,rfl,wC,wD,wE,wF,wG,wH,uq,ur,qB,n7,oo,ox,o0,yP,yQ,s5,CJ,BI,Cl,Dg,mp⟩;refine⟨_,_,_,pV,λBb pV=>?_⟩;have Z:=Z.ac rD;refine zld [tP] pV V (RL.cs (StmT.mq qB n7 oo ox o0) RL.nl) V λFM F2 Gd Bc uw r3=>zad 3 Z r3 (OS.sv uw r3 (i:=4) V) V V V M (kb V) λxn y8 zQ Bd ux uP=>sdo 2 40 40 [] [] (Hr_ 7 2 Hn_) uP V V λDD Fx uQ=>aQ 2 V ?_
    refine uW _ _ _ ?_ ⟨l++[tP],vh,qU,se,zQ,xn,y8,_,(fT (fT (hQ) hS) rD),(HS.sub uQ (a06 _ _)),s5,ux,f_,V,M,M,M,(by rw[a00,a0v];have q:=bt X;omega),(by intro hb;rw[a00,a0v];have q:=bt X;have q2:=(by assumption:_=false->_<_) hb;omega),(by intro x9 i9 b9 h9;refine hw _ _ _ ?_;refine Oc.Gj ?_ (λ_=>nu.eq_2 ..);refine Oc.no p5 ?_;rw[←p5.1,←p5.2.1];(try dsimp only at mp);first|exact mp|(refine Oc.seq mp ?_;exact h9))⟩;exact lh M X M (λh=>by have q2:=(by assumption:_=false->_<_) h;omega)
   have sG:=t7 rc;refine ab (zm (pT ar 0) (zc (pc.fO ts ex sJ (.mk (g_ b0 V) k4)) ?_));rintro _ Fy ⟨k8,q1,ss,vj,xK,zD,EE,m6,pW,rfl,wI,wJ,wK,d6,yR,yS,s6,BJ,Cm,Dh,rq⟩;replace pW:=b0.bO pW;refine sgo 2 2 43 43 [] [] (Hr_ 3 2 Hn_) pW V V λDE FA r4=>ai 2 V (ab (zm (pT ar 0) (zc (pa.aM ts ex vj [59] (.mk (g_ r4 V) s6)) ?_)))
   rintro _ FB ⟨vk,xL,zF,EF,hT,i1,rfl,yT,yU,s7,CK,BK,Cn,Di,rv⟩;replace i1:=r4.bO i1;refine ai 2 V (ab (zm (pT ar 0) (zc (pa.aM ts ex vk [125] (.mk (g_ i1 V) s7)) ?_)));rintro _ FC ⟨vm,qV,sf,EG,hV,pX,rfl,yV,yW,g0,CL,BL,Co,Dj,ms⟩;replace pX:=i1.bO pX;replace Z:=((Z.ac m6).ac hT).ac hV;refine ai 2 V (sgr 1 48 48 [] [] (Hr_ 0 2 (Hr_ 1 1 Hn_)) pX V V λDF FD r5=>?_);have⟨xi,hW,uR,uC,DN⟩:=OS.Gi Z r5 (i:=3) V;replace a4:=(((a4.ac m6).ac hT).ac hV).ac hW;replace d6:=((d6.ac hT).ac hV).ac hW;have g0:=g0.ac hW;refine ag ⟨.inr V,_,(rC V (bV V V (i_ r5 V) V) rN),(⟨⟨x3⟩,([]:List Str),tf,l,(⟨k8.j,k8.n,⟨k8.pp.b⟩,k8.op,k8.I⟩:ExpT)⟩:FunT),none,0,lr,p2,aA,a2,q1,ss,vm,qV,sf,_,(fT (fT (fT (fT (fT (fT (fT (fT (fT (fT (fT (fT (ez) e0) dn) hJ) hK) rB) m3) hQ) hS) m6) hT) hV) hW),(HS.G9 uR),V,M,M,M,(SR.nil:SR xi N_ ([]:List Str)),a4,uC,d6,M,M,g0,M,M,M,(by(unfold funM;(try dsimp only at a5);refine Oc.seq a5 ?_;(try dsimp only at a6);refine Oc.seq a6 ?_;refine Oc.seq (Oc.iteT (λ_=>(is_t X c7).2) (Oc.val M (λ_=>rfl))) ?_;(try dsimp only at bn);refine Oc.seq bn ?_;refine Oc.seq (Oc.yes jA (by rw[ce jA M];exact rn)) ?_;(try dsimp only at hk);refine Oc.seq hk ?_;refine Oc.seq (hw l _ _ (Oc.Gj (Oc.yes sG (ol sG M)) (λ_=>nu.eq_2 ..))) ?_;(try dsimp only at rq);refine Oc.seq rq ?_;(try dsimp only at rv);refine Oc.seq rv ?_;(try dsimp only at ms);first|exact ms|(refine Oc.seq ms ?_;exact Oc.val M (λ_=>by(simp only[ExpT.eta]<;>rfl)))))⟩
  have p8:=dk;try simp only[BS]at p8
  refine aK V dk V (aK V dk V (ad (v:=(.bool false)) (aH V dk V) V V (aB (aj 1 V (nz 5 (v:=false) V V V V ?_)))));refine ab (zm (pT ar 0) (zc (pc.fO ts ex rr (.mk (g_ f2 V) g4)) ?_));rintro _ FE ⟨k9,q3,su,vn,xM,zG,EH,m7,pY,rfl,wL,wM,wN,d7,yX,yY,s8,BM,Cp,Dk,rx⟩;replace pY:=f2.bO pY;refine sgo 2 2 43 43 [] [] (Hr_ 3 2 Hn_) pY V V λDG FF r6=>ai 2 V (ab (zm (pT ar 0) (zc (pa.aM ts ex vn [59] (.mk (g_ r6 V) s8)) ?_)))
  rintro _ FG ⟨vp,xN,zH,EI,hX,i2,rfl,yZ,y0,s9,CM,BN,Cq,Dl,ry⟩;replace i2:=r6.bO i2;refine ai 2 V (ab (zm (pT ar 0) (zc (pa.aM ts ex vp [125] (.mk (g_ i2 V) s9)) ?_)));rintro _ FH ⟨vr,qW,sg,EJ,h1,pZ,rfl,y1,y2,g1,CN,BO,Cr,Dm,mv⟩;replace pZ:=i2.bO pZ;replace Z:=((Z.ac m7).ac hX).ac h1;refine ai 2 V (sgr 1 48 48 [] [] (Hr_ 0 2 (Hr_ 1 1 Hn_)) pZ V V λDH FI r7=>?_);have⟨xj,h2,uT,uD,DO⟩:=OS.Gi Z r7 (i:=3) V;replace a4:=(((a4.ac m7).ac hX).ac h1).ac h2;replace d7:=((d7.ac hX).ac h1).ac h2;have g1:=g1.ac h2;refine ag ⟨.inr V,_,(rC V (bV V V (i_ r7 V) V) rN),(⟨⟨x3⟩,([]:List Str),tf,l,(⟨k9.j,k9.n,⟨k9.pp.b⟩,k9.op,k9.I⟩:ExpT)⟩:FunT),none,0,lr,p2,aA,a2,q3,su,vr,qW,sg,_,(fT (fT (fT (fT (fT (fT (fT (fT (fT (fT (fT (ez) e0) dn) hJ) hK) rB) m3) hQ) m7) hX) h1) h2),(HS.G9 uT),V,M,M,M,(SR.nil:SR xj N_ ([]:List Str)),a4,uD,d7,M,M,g1,M,M,M,(by(unfold funM;(try dsimp only at a5);refine Oc.seq a5 ?_;(try dsimp only at a6);refine Oc.seq a6 ?_;refine Oc.seq (Oc.iteT (λ_=>(is_t X c7).2) (Oc.val M (λ_=>rfl))) ?_;(try dsimp only at bn);refine Oc.seq bn ?_;refine Oc.seq (Oc.yes jA (by rw[ce jA M];exact rn)) ?_;(try dsimp only at hk);refine Oc.seq hk ?_;refine Oc.seq (hw l _ _ (Oc.Gf X)) ?_;(try dsimp only at rx);refine Oc.seq rx ?_;(try dsimp only at ry);refine Oc.seq ry ?_;(try dsimp only at mv);first|exact mv|(refine Oc.seq mv ?_;exact Oc.val M (λ_=>by(simp only[ExpT.eta]<;>rfl)))))⟩
 have ee:=t1 rb;refine ab (zm (pT ar 0) (zc (pa.aM ts ex sI [123] (.mk (g_ d9 V) k3)) ?_));rintro _ FJ ⟨f6,qX,si,xk,rE,p0,rfl,y3,y4,tc,CO,BP,Cs,Dn,hl⟩;replace p0:=d9.bO p0;refine ai 3 V ?_;have tq:=HS.snoc p0;refine ak (λ(mm:Nat) f H'=> ∃(l:List StmT) (rr:RdrT),∃bf,∃(b2:Nat),∃bb al,∃(an:Nat),∃F',xk.le F'/\HS (Base.of H [ar]) F' H' [(rZ ar rr bf b2),(fP b1 [(tX []),N_,N_,N_,(iI 0),(iI 0),(tX []),(iI 0),N_]),(fP b5 [(tX x3),N_,N_,(S_ al l an),(iI 0),(iI 0),(tX []),(iI 0),N_]),bb] R/\Sr F' bf rr.l b2/\OZ F' al l an bb/\aI f [(0,(pT ar 0)),(2,(pT b1 0)),(3,(pT b5 0))]/\mm=2 *(Q ts-rr.G2.toNat)+(!rr.Gf).toNat/\(rr.l=ts)/\(f6.G2<=rr.G2/\rr.G2<=(Q ts:Int))/\(rr.E=r.E)/\((Q l:Int)<=rr.G2+1)/\(rr.Gf=false->(Q l:Int)<=rr.G2)/\(∀x i9 b9,Oc (λn=>nu ts n l rr.G2.toNat) rr.Gf rr.G2 x i9 b9->Oc (λn=>nu ts n [] (f6.G2).toNat) f6.Gf f6.G2 x i9 b9)) _ ⟨([]:List StmT),f6,qX,si,[],none,0,_,fR,tq,tc,(OS.nil:OS _ N_ ([]:List StmT) []),f_,V,M,M,M,(by show((0:Nat):Int)<=_;omega),(by intro _;show((0:Nat):Int)<=_;omega),(by intro x9 i9 b9 h9;exact h9)⟩ ?_;rintro AF Bg AR ⟨l,rr,bf,b2,bb,al,an,AG,hm,dt,e1,E,qi,rfl,rI,rJ,rK,rL,bt,hw⟩ tA;refine aw _ qi (λ_=>?_);clear qi;refine aj 2 V (ab (zm (pT ar 0) (ad (v:=(pT ar 0)) (jH V) V V (ad (v:=(pT ar 3)) (bI V V) V V (ad (v:=(.bool rr.Gf)) (aU (i:=3) V V (h_ dt V) V V) V V ?_)))));refine ad (v:=(.bool (!rr.Gf))) (bY V) V V (zm (.bool (!rr.Gf)) (fg (v:=(!rr.Gf)) V V (λa9=>?_) (λa9=>?_)))
 ·have j1:=a9;try simp only[BS]at j1
  refine zm (pT ar 0) (aC V a9 (zc (pa.cI ts ex rr [114,101,116,117,114,110] (.mk (g_ dt V) e1)) ?_));rintro _ AS ⟨DU,qs,vt,wO,AH,hn,a7,rfl,vP,vQ,g8,rfl,th,tg,zZ,z7,Ak⟩;replace a7:=dt.bO a7;have E:=E.ac hn;refine aC V a9 (ad (v:=(.bool (!(kwB rr [114,101,116,117,114,110])))) (bY V) V V (ad (v:=(.bool (!(kwB rr [114,101,116,117,114,110])))) (aq V a9 V) V V (aB (aj 1 V (zI 2 5 (λlx=>?_) λlx=>?_)))))
  ·have i3:=tg lx;refine az V (cC 3 34 36 [] [(35,(S_ al l an)),(36,(pT ar 0))] (Hr_ 1 2 Hn_) a7 V V λ_=>wcD [ar] (j:=0) a7 V V (pe.gL ts ex qs (.mk (HS.Gh a7.G5 (i:=0) V) g8)) V V (⟨.inl V,.inr (HS.nin a7 (i:=2) (j:=0) V V e_ (List.Mem.head _)),l_⟩) ?_);rintro _ AT ⟨te,vz,wX,tT,uZ,tU,u0,tV,u1,tW,u2,tB,qu,qC,AI,qf,h3,rfl,t8,t9,ua,ub,uc,ud,tJ,tK,m9,kk,kl,kn,kt,vR,vT,qH,Af,z0,z8,Al,g9⟩;refine⟨_,_,_,h3,λzU h3=>?_⟩;have E:=E.ac qf;refine zld [te] h3 V (RL.cs (StmT.mq m9 kk kl kn kt) RL.nl) V λBe DP DV zV ti qj=>zad 3 E qj (OS.sv ti qj (i:=4) V) V V V M (kb V) λtR uX u3 zW tj tt=>sdo 2 40 40 [] [] (Hr_ 7 2 Hn_) tt V V λAs AU tu=>aQ 2 V ?_
   refine tA _ _ _ ?_ ⟨l++[te],tB,qu,qC,u3,tR,uX,_,(fT (fT (hm) hn) qf),(HS.sub tu (a06 _ _)),qH,tj,f_,V,M,M,M,(by rw[a00,a0v];have q:=bt X;omega),(by intro hb;rw[a00,a0v];have q:=bt X;have q2:=(by assumption:_=false->_<_) hb;omega),(by intro x9 i9 b9 h9;refine hw _ _ _ ?_;refine Oc.Gj ?_ (λ_=>nu.eq_2 ..);refine Oc.no i3 ?_;rw[←i3.1,←i3.2.1];(try dsimp only at g9);first|exact g9|(refine Oc.seq g9 ?_;exact h9))⟩;exact lh M X M (λh=>by have q2:=(by assumption:_=false->_<_) h;omega)
  have qr:=th lx;refine ab (zm (pT ar 0) (zc (pc.fO ts ex qs (.mk (g_ a7 V) g8)) ?_));rintro _ AV ⟨g5,qx,qF,tC,vu,wP,AJ,qg,h4,rfl,ue,uf,ug,c0,vU,vV,qI,z1,z9,Am,qb⟩;replace h4:=a7.bO h4;refine sgo 2 2 43 43 [] [] (Hr_ 3 2 Hn_) h4 V V λAt AW qk=>ai 2 V (ab (zm (pT ar 0) (zc (pa.aM ts ex tC [59] (.mk (g_ qk V) qI)) ?_)))
  rintro _ AX ⟨tD,vv,wQ,AK,ho,e2,rfl,vW,vX,qJ,Ag,z2,Aa,An,qc⟩;replace e2:=qk.bO e2;refine ai 2 V (ab (zm (pT ar 0) (zc (pa.aM ts ex tD [125] (.mk (g_ e2 V) qJ)) ?_)));rintro _ AY ⟨tE,qv,qD,AL,hp,h5,rfl,vY,vZ,em,Ah,z3,Ab,Ao,he⟩;replace h5:=e2.bO h5;replace E:=((E.ac qg).ac ho).ac hp;refine ai 2 V (sgr 1 48 48 [] [] (Hr_ 0 2 (Hr_ 1 1 Hn_)) h5 V V λAu AZ qm=>?_);have⟨qM,hq,tw,tk,AB⟩:=OS.Gi E qm (i:=3) V;replace c0:=((c0.ac ho).ac hp).ac hq;have em:=em.ac hq;refine ag ⟨.inr V,_,(rC V (bV V V (i_ qm V) V) rN),(⟨⟨x3⟩,([]:List Str),([]:List Str),l,(⟨g5.j,g5.n,⟨g5.pp.b⟩,g5.op,g5.I⟩:ExpT)⟩:FunT),none,0,none,0,al,an,qx,qF,tE,qv,qD,_,(fT (fT (fT (fT (fT (fT (fT (fT (fT (fT (fT (ez) e0) dn) hJ) hK) rE) hm) hn) qg) ho) hp) hq),(HS.G9 tw),V,M,M,M,(SR.nil:SR qM N_ ([]:List Str)),(SR.nil:SR qM N_ ([]:List Str)),tk,c0,M,M,em,M,M,M,(by(unfold funM;(try dsimp only at a5);refine Oc.seq a5 ?_;(try dsimp only at a6);refine Oc.seq a6 ?_;refine Oc.seq (Oc.iteT (λ_=>(is_t X c7).2) (Oc.val M (λ_=>rfl))) ?_;(try dsimp only at bn);refine Oc.seq bn ?_;rw[←ee.1,←ee.2.1];refine Oc.seq (Oc.Gl (no_k ee) (Oc.val M (λ_=>rfl))) ?_;(try dsimp only at hl);refine Oc.seq hl ?_;refine Oc.seq (hw l _ _ (Oc.Gj (Oc.yes qr (ol qr M)) (λ_=>nu.eq_2 ..))) ?_;(try dsimp only at qb);refine Oc.seq qb ?_;(try dsimp only at qc);refine Oc.seq qc ?_;(try dsimp only at he);first|exact he|(refine Oc.seq he ?_;exact Oc.val M (λ_=>by(simp only[ExpT.eta]<;>rfl)))))⟩
 have j1:=a9;try simp only[BS]at j1
 refine aK V a9 V (aK V a9 V (ad (v:=(.bool false)) (aH V a9 V) V V (aB (aj 1 V (nz 5 (v:=false) V V V V ?_)))));refine ab (zm (pT ar 0) (zc (pc.fO ts ex rr (.mk (g_ dt V) e1)) ?_));rintro _ A0 ⟨g6,qy,qG,tF,vx,wV,AM,qh,h6,rfl,uh,ui,uj,c3,v0,v1,qK,z4,Ac,Ap,qd⟩;replace h6:=dt.bO h6;refine sgo 2 2 43 43 [] [] (Hr_ 3 2 Hn_) h6 V V λAv A1 qo=>ai 2 V (ab (zm (pT ar 0) (zc (pa.aM ts ex tF [59] (.mk (g_ qo V) qK)) ?_)))
 rintro _ A2 ⟨tG,vy,wW,AO,ht,e3,rfl,v2,v3,qL,Ai,z5,Ad,Aq,qe⟩;replace e3:=qo.bO e3;refine ai 2 V (ab (zm (pT ar 0) (zc (pa.aM ts ex tG [125] (.mk (g_ e3 V) qL)) ?_)));rintro _ A3 ⟨tH,qw,qE,AQ,hu,h7,rfl,v4,v5,et,Aj,z6,Ae,Ar,hg⟩;replace h7:=e3.bO h7;replace E:=((E.ac qh).ac ht).ac hu;refine ai 2 V (sgr 1 48 48 [] [] (Hr_ 0 2 (Hr_ 1 1 Hn_)) h7 V V λAw A4 qp=>?_);have⟨qN,hv,tz,tp,AC⟩:=OS.Gi E qp (i:=3) V;replace c3:=((c3.ac ht).ac hu).ac hv;have et:=et.ac hv;refine ag ⟨.inr V,_,(rC V (bV V V (i_ qp V) V) rN),(⟨⟨x3⟩,([]:List Str),([]:List Str),l,(⟨g6.j,g6.n,⟨g6.pp.b⟩,g6.op,g6.I⟩:ExpT)⟩:FunT),none,0,none,0,al,an,qy,qG,tH,qw,qE,_,(fT (fT (fT (fT (fT (fT (fT (fT (fT (fT (ez) e0) dn) hJ) hK) rE) hm) qh) ht) hu) hv),(HS.G9 tz),V,M,M,M,(SR.nil:SR qN N_ ([]:List Str)),(SR.nil:SR qN N_ ([]:List Str)),tp,c3,M,M,et,M,M,M,(by(unfold funM;(try dsimp only at a5);refine Oc.seq a5 ?_;(try dsimp only at a6);refine Oc.seq a6 ?_;refine Oc.seq (Oc.iteT (λ_=>(is_t X c7).2) (Oc.val M (λ_=>rfl))) ?_;(try dsimp only at bn);refine Oc.seq bn ?_;rw[←ee.1,←ee.2.1];refine Oc.seq (Oc.Gl (no_k ee) (Oc.val M (λ_=>rfl))) ?_;(try dsimp only at hl);refine Oc.seq hl ?_;refine Oc.seq (hw l _ _ (Oc.Gf X)) ?_;(try dsimp only at qd);refine Oc.seq qd ?_;(try dsimp only at qe);refine Oc.seq qe ?_;(try dsimp only at hg);first|exact hg|(refine Oc.seq hg ?_;exact Oc.val M (λ_=>by(simp only[ExpT.eta]<;>rfl)))))⟩
end pf
open pf
namespace pg
variable (ex:FuncId) {F:Fz} {H:Heap} {R:List Fp}
theorem oG: ∀(f:Nat) (s:List UInt8) (a:Nat),Q (dJ f s a).1<=Q s-a/\∀t∈(dJ f s a).1,Q t.D.b<=Q s/\0<=t.G2/\t.G2<=(Q s:Int)
 |0,s,a=>⟨a0h _,λt h=>by cases h⟩
 |f+1,s,a=>by
  rw[dJ];split
  ·next h=>
   split
   ·next e=>
    have q:=nT (s:=s.drop a) (by rw[a17];omega);have⟨T,E⟩:=oG f s (a+Q (aL (s.drop a)).2.1+spl false (s.drop (a+Q (aL (s.drop a)).2.1)));have U:=q.2.1 e;have O:=q.1;rw[a17]at O;unfold consT;split
    ·refine⟨?_,λt Z=>?_⟩
     ·show _+1<=_;omega
     rcases a0n.1 Z with rfl|Z
     ·refine⟨?_,Int.natCast_nonneg _,?_⟩
      ·show(aL (s.drop a)).2.1.length<=_;omega
      show(a:Int)<=_;omega
     exact E t Z
    exact⟨M,E⟩
   exact⟨a0h _,λt h=>by cases h⟩
  exact⟨a0h _,λt h=>by cases h⟩
theorem gN(s:List UInt8):Q (bU s).1<=20000/\∀i,Q (Y (bU s).1 i default).D.b<=1000000:=by
 unfold bU;split
 ·exact⟨a0h _,λi=>a0h _⟩
 have⟨O,E⟩:=oG (Q s+1) s (spl false s);refine⟨M,λi=>?_⟩;rcases a0p i (Q (dJ (Q s+1) s (spl false s)).1) with hi|hi
 ·rw[a09,a08 hi];have:=(E _ (a18 hi)).1;show((dJ (Q s+1) s (spl false s)).1[i]).D.b.length<=_;omega
 rw[bW hi];exact a0h _
theorem scan_at(s:List UInt8)(h:Q s<1000000)(i:Int):in64 (offV (bU s).1 i (Q s:Int)):=by
 unfold offV;split
 ·unfold bU;split
  ·show in64 0;decide
  have⟨_,E⟩:=oG (Q s+1) s (spl false s);rcases a0p i.toNat (Q (dJ (Q s+1) s (spl false s)).1) with hi|hi
  ·rw[a09,a08 hi];have:=(E _ (a18 hi)).2;show in64 ((dJ (Q s+1) s (spl false s)).1[i.toNat]).G2;omega
  rw[bW hi];show in64 0;decide
 omega
theorem Oc.kf{α:Type}{ts:List Token}{w:List UInt8}{g:Nat->Unit->Nat->Rs α}{b O c:Bool}{i T j:Int}{x:α}(q:j=i/\c=b/\(b=false->¬isK ts i.toNat w=true))(E:0<=i)(h:O=true/\T=j):Oc (λn=>bnd (keyM ts w i.toNat) (g n)) b i x T O:=⟨λ_=>⟨h.1,h.2.trans q.1⟩,λhb=>by
 rw[h.1,show(λn=>bnd (keyM ts w i.toNat) (g n))=λ_=> .error i.toNat from funext λn=>by unfold keyM;rw[if_neg (q.2.2 hb)];rfl];exact .fail (by have:=h.2;have:=q.1;omega)⟩
theorem Oc.ky{α:Type}{ts:List Token}{w:List UInt8}{g:Nat->Unit->Nat->Rs α}{b O c:Bool}{i T j:Int}{x:α}(q:b=false/\isK ts i.toNat w=true/\j=i+1/\c=false)(E:0<=i)(h:Oc (λn=>g n () j.toNat) c j x T O):Oc (λn=>bnd (keyM ts w i.toNat) (g n)) b i x T O:=Oc.of q.1 ((h.out q.2.2.2).eqf (funext λn=>by unfold keyM;rw[if_pos q.2.1,ce q E];rfl))
theorem pr_exit{ts:List Token}{O:List ArrT}{fl:List FunT}{r:RdrT}(E:0<=r.G2)(h:r.Gf=false->(Q ts:Int)<=r.G2):Oc (λn=>kH ts n O fl r.G2.toNat) r.Gf r.G2 (O,fl) r.G2 r.Gf:=by
 cases hb:r.Gf with
 |true=>exact Oc.Gf V
 |false=>exact Oc.Gj (Oc.iteT (λ_=>show Q ts<=r.G2.toNat by have:=h hb;omega) (Oc.val E λ_=>rfl)) (λ_=>kH.eq_2 ..)
def ParR(s:List UInt8)(p:PrgT)(e:ErrT):Prop:=
 if(bU s).2.1=0 then ∃(x:List ArrT×List FunT) (i:Int) (b:Bool),Outc (λn=>kH (bU s).1 n [] [] 0) x i b/\i<=(Q (bU s).1:Int)/\p=(if b then⟨[],[]⟩ else⟨x.1,x.2⟩)/\e=(if b then⟨2,offV (bU s).1 i (Q s:Int)⟩ else⟨0,0⟩)
 else p=⟨[],[]⟩/\e=⟨(bU s).2.1,(bU s).2.2⟩
theorem pr_err{s:List UInt8}(h:(bU s).2.1≠0):ParR s ⟨[],[]⟩ ⟨(bU s).2.1,(bU s).2.2⟩:=by unfold ParR;rw[if_neg h];exact⟨V,V⟩
theorem pr_bad{s:List UInt8}{x:List ArrT×List FunT}{i:Int}{b:Bool}(h:(bU s).2.1=0)(w:Oc (λn=>kH (bU s).1 n [] [] 0) false 0 x i b)(hb:b=true)(hi:i<=(Q (bU s).1:Int)):ParR s ⟨[],[]⟩ ⟨2,offV (bU s).1 i (Q s:Int)⟩:=by unfold ParR;rw[if_pos h];exact⟨x,i,b,w.out V,hi,by rw[hb];rfl,by rw[hb];rfl⟩
theorem pr_ok{s:List UInt8}{E:List ArrT}{fl:List FunT}{i:Int}{b:Bool}(h:(bU s).2.1=0)(w:Oc (λn=>kH (bU s).1 n [] [] 0) false 0 (E,fl) i b)(hb:b=false)(hi:i<=(Q (bU s).1:Int)):ParR s ⟨E,fl⟩ ⟨0,0⟩:=by unfold ParR;rw[if_pos h];exact⟨_,i,b,w.out V,hi,by rw[hb];rfl,by rw[hb];rfl⟩
theorem Parse_c(s:List UInt8)(hs:Hb H F H [] R)(i2:Q s<1000000):kKt ex 12 [(tX s)] H λv H'=> ∃(p:PrgT),∃d4,∃(e6:Nat),∃d5,∃(e7:Nat) (e:ErrT),∃F',F.le F'/\Hb H F' H' [] R/\v= .tuple ⟨[.agg ⟨[sL d4 (Q p.d) e6,sL d5 (Q p.U) e7]⟩,.agg ⟨[iI e.L,iI e.G2]⟩]⟩/\Sr F' d4 p.d e6/\Sr F' d5 p.U e7/\in64 e.L/\in64 e.G2/\(ParR s p e):=by
 have rv:=(gN s).1;refine ay Tryz.func12 V V (aj 1 V (ab (zn hs V λb1 H2 i3=>zn i3 V λb3 H4 f5=>ai 2 V ?_)));refine ab (zm _ (zc (l1.scan_c ex s (HS.call f5) M) ?_));rintro _ H5 ⟨c8,c9,l5,p5,e5,F5,em,e4,rfl,g7,i0,i1,rfl,rfl⟩;replace e4:=HS.G8 f5 V e4;refine cu 3 2 12 13 [9] [(12,(sL c8 _ c9)),(13,(aG [_,_]))] Hn_ V V λ_=>zn e4 V λb7 H8 jw=>sgo 2 6 1 0 [4] [(4,(sL c8 _ c9))] (Hr_ 7 3 Hn_) jw V V λqj H9 bb=>ai 3 V (bQ 1 14 16 [] [(16,((ErrT.mk _ _).L !=0))] (Hr_ 1 3 Hn_) bb V V λ_=>zI 1 2 (λhX=>?_) λhX=>?_)
 ·refine az V (cC 2 17 18 [] [(17,(aG [_,_])),(18,(aG [_,_]))] (Hr_ 1 3 Hn_) bb V V λ_=>ef (id:= .x [b1]) (ck (q:=0) bb.G5 V V V V V V V V V) V (by rintro _ _ _ ⟨_,hwr⟩;exact dl V V (Wr.did hwr)) (⟨.inr (HS.nin bb (i:=3) (j:=0) V V e_ (List.Mem.head _)),l_⟩) ?_);rintro _ hB _ ⟨bl,_⟩ hq fq;replace bl:=HS.lg bl bb fq;generalize ({hB with log:=hq}:Heap)=k7 at bl⊢;refine sdo 1 1 0 [] [] (Hr_ 3 1 Hn_) bl V V λn2 pU co=>aQ 1 V (ag ⟨.inr V,_,(rC V (bV V V (h_ co V) V) (rC V (bV V V (i_ co V) V) rN)),(⟨([]:List ArrT),([]:List FunT)⟩:PrgT),_,0,_,0,_,_,(em),(HS.G3 co),V,(SR.nil:SR F5 _ _),(SR.nil:SR F5 _ _),M,M,(pr_err X)⟩)
 refine ab (wro 4 0 [] 19 22 [] [(22,(aG [_,_,_,_]))] trivial V V λ_=>bd (aW bb V V) V V ?_);rintro _ pV _ ⟨T,rfl,g8,_⟩;refine za (pT T 0) (ai 2 V (ab (zn g8 V λf1 pW g9=>ai 3 V ?_)));have⟨hz,ee,he,g5,ox⟩:=OS.Gi g7 g9 (i:=2) V;have hf:=HS.snoc he;have hg:=HS.snoc hf;refine ak (λ(mm:Nat) f H'=> ∃(al:List ArrT) (fl:List FunT) (rr:RdrT),∃a3,∃(a5:Nat),∃a1 Z,∃(ax:Nat),∃a2 an,∃(aA:Nat),∃F',hz.le F'/\HS _ F' H' [[(b1,.cells [_,_] _ _)],[(b3,.cells [_,_] _ _)],[],_,[(T,.cells [(S_ a3 rr.l a5),(.int _ rr.G2),(.int _ rr.E),rr.Gf] _ _)],[(f1,.cells [(S_ Z al ax),(S_ an fl aA)] _ _)],a1,a2] R/\Sr F' a3 rr.l a5/\OZ F' Z al ax a1/\OZ F' an fl aA a2/\aI f [(2,(pT b1 0)),(3,(pT b3 0)),(4,(sL c8 (Q ((bU s).1)) c9)),(6,(pT T 0)),(7,(pT f1 0))]/\mm=2 *(Q (bU s).1-rr.G2.toNat)+(!rr.Gf).toNat/\(rr.l=(bU s).1)/\(0<=rr.G2/\rr.G2<=(Q (bU s).1:Int))/\(rr.E=(Q s:Int))/\((Q al:Int)<=rr.G2/\(Q fl:Int)<=rr.G2)/\(∀x i9 b9,Oc (λn=>kH (bU s).1 n al fl rr.G2.toNat) rr.Gf rr.G2 x i9 b9->Oc (λn=>kH (bU s).1 n [] [] 0) false 0 x i9 b9)) _ ⟨([]:List ArrT),([]:List FunT),(⟨(bU s).1,0,(Q s:Int),false⟩:RdrT),c8,c9,[],none,0,[],none,0,_,fR,hg,g5,(OS.nil:OS _ N_ ([]:List ArrT) []),(OS.nil:OS _ N_ ([]:List FunT) []),f_,V,k_,(⟨Int.le_refl _,Int.natCast_nonneg _⟩),k_,(⟨Int.le_refl _,Int.le_refl _⟩),(by intro x9 i9 b9 h9;exact h9)⟩ ?_;rintro o2 qi pX ⟨al,fl,rr,a3,a5,a1,Z,ax,a2,an,aA,o9,a8,U,ba,O,E,e0,rfl,f2,f3,f4,qk,hw⟩ c6;refine aw _ e0 (λ_=>?_);clear e0;refine aj 2 V (bQ 1 24 37 [] [(37,((!rr.Gf)&&(decide (rr.G2<(Q ((bU s).1):Int)))))] (Hr_ 3 4 (dj 9 (λ_=>(ql 3 1 (HS.hc U (i:=4) V) V V)) Hn_)) U V V λ_=>zI 4 6 (λd6=>?_) λd6=>?_)
 ·have fz:=d6;refine ab (zm (pT T 0) (zc (pa.cI _ ex rr _ (.mk (HS.Gh U (i:=4) V) ba M M)) ?_));rintro _ pY ⟨qp,o3,hF,j2,pi,a9,a6,rfl,h1,h2,bw,rfl,gm,f7,lr,mg,m3⟩;replace a6:=U.bO a6;have⟨O,E⟩:=M2 a9 O E;refine za _ (ai 1 V (zI 1 1 (λd7=>?_) λd7=>?_))
  ·have e8:=gm d7;refine ab (zm (pT T 0) (zc (pa.mH _ ex _ (.mk (HS.Gh a6 (i:=4) V) bw M M)) ?_));rintro _ pZ ⟨qt,o4,hG,kd,pj,b5,bn,rfl,h3,h4,fb,m1,lx,mp,m6,d9⟩;replace bn:=a6.bO bn;refine zm (pT T 0) (zc (pb.small_c _ ex _ (.mk (HS.Gh bn (i:=4) V) fb M M)) ?_);rintro _ p0 ⟨k5,o6,hH,ki,pl,b6,cL,rfl,h5,h6,fd,n1,lz,ms,m7,ea⟩;replace cL:=bn.bO cL;refine cu 1 4 48 48 [] [(48,(aG [_,_]))] Hn_ V V λ_=>zn cL V λqh p1 hh=>sgo 1 6 1 0 [] [] (Hr_ 6 8 Hn_) hh V V λn3 p2 e1=>ai 2 V (ab (zm (pT T 0) ?_))
   refine zc (pa.aM _ ex _ _ (.mk (HS.Gh e1 (i:=4) V) fd M M)) ?_;rintro _ p3 ⟨o7,hI,kk,pm,b8,bt,rfl,h7,h8,fi,m2,l3,mv,m9,b0⟩;replace bt:=e1.bO bt;replace O:=((O.ac b5).ac b6).ac b8;replace E:=((E.ac b5).ac b6).ac b8;refine ai 1 V (ab (cS 3 0 51 53 [] [(52,(sL _ _ _)),(53,(aG [_,_]))] (Hr_ 1 5 (Hr_ 2 8 Hn_)) bt V V λ_=>zlo ([(⟨_,k5⟩:ArrT)]:List ArrT) bt V (RL.cs ⟨V,M⟩ RL.nl) V λqf qm qr p4 g1 e2=>zao 6 O e2 (OS.sv g1 e2 (i:=9) V) V V V M λhC jA k3 p6 g2 hj=>sgo 2 5 56 56 [] [] (Hr_ 6 5 Hn_) hj V V λn4 p7 hk=>?_));refine ai 3 V ?_;refine c6 _ _ _ ?_ ⟨_,fl,_,_,_,k3,hC,jA,_,_,_,_,(fT (fT (fT (fT (a8) a9) b5) b6) b8),(HS.sub hk (a06 _ _)),fi,g2,E,f_,V,X,M,M,(by(simp at *;omega)),(by intro x9 i9 b9 h9;refine hw _ _ _ ?_;refine Oc.Gj ?_ (λ_=>kH.eq_2 ..);refine Oc.Gl (λ_=>show ¬_<=_ by omega) ?_;refine Oc.yes e8 ?_;rw[ce e8 M];(try dsimp only at d9);refine Oc.seq d9 ?_;(try dsimp only at ea);refine Oc.seq ea ?_;(try dsimp only at b0);first|exact b0|(refine Oc.seq b0 ?_;exact h9))⟩;exact lh M fz.1 M (λh=>by omega)
  have a7:=f7 d7;refine ab (zm (pT T 0) (zc (pa.cI _ ex _ _ (.mk (HS.Gh a6 (i:=4) V) bw M M)) ?_));rintro _ p8 ⟨qq,c7,hJ,kl,pv,bf,a4,rfl,ia,ik,bF,rfl,go,f9,ma,mx,nc⟩;replace a4:=a6.bO a4;have⟨O,E⟩:=M2 bf O E;refine za _ (ai 1 V (zI 0 0 (λd8=>?_) λd8=>?_))
  ·have ht:=go d8;refine az V (cC 3 60 62 [] [(61,(sL _ _ _)),(62,(pT T 0))] (Hr_ 1 5 Hn_) a4 V V λ_=>wcD [T] (j:=4) a4 V V (pf.function_c _ ex _ (.mk (HS.Gh a4.G5 (i:=4) V) bF M M)) V V (⟨.inl V,.inr (HS.nin a4 (i:=5) (j:=4) V V e_ (List.Mem.head _)),l_⟩) ?_);rintro _ p9 ⟨k6,hQ,kt,hS,kx,hT,kA,hV,k0,o8,hK,kn,px,ch,c0,rfl,hv,hx,hy,dn,dt,d1,d2,it,iv,fk,mf,m0,nn,b2⟩;refine⟨_,_,_,c0,λk8 c0=>?_⟩;have⟨O,E⟩:=M2 ch O E;refine zld [k6] c0 V (RL.cs ⟨_,_,_,_,_,_,_,_,V,M,M,M,dn,dt,d1,d2⟩ RL.nl) V λqg qo qs k9 g3 e3=>zad 7 E e3 (OS.sv g3 e3 (i:=8) V) V V V M (kb V) λhD j1 k4 ll g4 hl=>sdo 2 66 66 [] [] (Hr_ 7 5 Hn_) hl V V λn5 qa hm=>aQ 3 V ?_
   refine c6 _ _ _ ?_ ⟨al,_,_,_,_,_,_,_,k4,hD,j1,_,(fT (fT (fT (a8) a9) bf) ch),(HS.sub hm (a06 _ _)),fk,O,g4,f_,V,X,M,M,(by(simp at *;omega)),(by intro x9 i9 b9 h9;refine hw _ _ _ ?_;refine Oc.Gj ?_ (λ_=>kH.eq_2 ..);refine Oc.Gl (λ_=>show ¬_<=_ by omega) ?_;refine Oc.no a7 ?_;rw[←a7.1,←a7.2.1];refine Oc.ky ht M ?_;(try dsimp only at b2);first|exact b2|(refine Oc.seq b2 ?_;exact h9))⟩;exact lh M fz.1 M (λh=>by omega)
  have hr:=f9 d8;refine sgr 3 38 40 [] [] (Hr_ 3 4 Hn_) a4 V V λn6 qb hn=>?_
  refine c6 _ _ _ ?_ ⟨al,fl,(⟨c7.l,c7.G2,c7.E,true⟩:RdrT),_,_,_,_,_,_,_,_,_,(fT (fT (a8) a9) bf),hn,bF,O,E,f_,V,M,M,M,M,(by intro x9 i9 b9 h9;refine hw _ _ _ ?_;refine Oc.Gj ?_ (λ_=>kH.eq_2 ..);refine Oc.Gl (λ_=>show ¬_<=_ by omega) ?_;refine Oc.no a7 ?_;rw[←a7.1,←a7.2.1];exact Oc.kf hr M (h9.1 V))⟩;exact lh M fz.1 M (λh=>by cases h)
 have f6:rr.Gf=false->(Q (bU s).1:Int)<=rr.G2:=λh=>by have:=d6 h;omega
 refine bQ 1 67 70 [] [(70,rr.Gf)] (Hr_ 3 4 Hn_) U V V λ_=>zI 1 2 (λh0=>?_) λh0=>?_
 ·refine ab (cu 2 0 71 72 [] [(71,(aG [_,_])),(72,(pT T 0))] Hn_ V V λ_=>zc (pa.offset_c _ ex rr (.mk (HS.Gh U (i:=4) V) ba M M)) ?_);rintro _ qc ⟨qu,fu,g0,c3,rfl,rfl⟩;replace c3:=U.bO c3;refine sgo 3 3 74 74 [] [] (Hr_ 4 0 (Hr_ 5 1 Hn_)) c3 V V λn7 qd c4=>ai 1 V (ag ⟨.inr V,_,(rC V (bV V V (h_ c4 V) V) (rC V (bV V V (i_ c4 V) V) rN)),(⟨([]:List ArrT),([]:List FunT)⟩:PrgT),_,0,_,0,(⟨2,_⟩:ErrT),_,(fT (fT (fT (em) ee) a8) g0),(HS.G3 c4),V,(SR.nil:SR fu _ _),(SR.nil:SR fu _ _),M,(by(rw[f2,f4];exact scan_at s i2 _)),(by(rw[f2,f4];exact pr_bad X (hw _ _ _ (pr_exit M f6)) X f3.2))⟩)
 refine sgr 1 75 76 [] [] (Hr_ 0 5 (Hr_ 2 0 (Hr_ 3 1 Hn_))) U V V λoo qe c5=>?_
 have⟨pA,et,ho,ci,o0⟩:=OS.Gi O c5 (i:=6) V;have E:=E.ac et;have⟨pS,ez,hp,g6,o1⟩:=OS.Gi E ho (i:=7) V;have ci:=ci.ac ez;refine ag ⟨.inr V,_,(rC V (bV V V (h_ c5 V) V) (rC V (bV V V (i_ c5 V) V) rN)),_,_,_,_,_,_,_,(fT (fT (fT (fT (em) ee) a8) et) ez),(HS.G3 hp),V,ci,g6,M,M,(pr_ok X (hw _ _ _ (pr_exit M f6)) X f3.2)⟩
end pg
open pg
namespace ph
open Go.R w1 w3 l1 pt pa pb pc pd pe pf pg
theorem fold_acc(l:List UInt8): ∀a,l.foldl valA a=a *10^(Q l)+val l:=by
 induction l with
 |nil=>intro a;show a=a *1+0;omega
 |cons c l ih=>
  intro a
  show l.foldl valA (valA a c)=_
  have e:val (c::l)=l.foldl valA (valA 0 c):=rfl
  rw[ih,e,ih (valA 0 c),a02,a1U]
  unfold valA
  rw[a10,a10,Nat.mul_zero,Nat.zero_mul,a0x,←a0C,Nat.mul_comm (10^(Q l)) 10,←Nat.mul_assoc,Nat.mul_comm 10 a]
theorem val_cons(c:UInt8)(l:List UInt8):val (c::l)=(c.toNat-48) *10^(Q l)+val l:=by show l.foldl valA (valA 0 c)=_;rw[fold_acc];unfold valA;rw[Nat.mul_zero,a0x]
theorem val_lt'{l:List UInt8}(h:l.all fM=true):val l<10^(Q l):=by have:=val_lt (s:=l) (Q l) (a07 _) (by rw[a0W];exact h);rwa [a0W]at this
theorem dig_rng{c:UInt8}(h:fM c=true):48<=c.toNat/\c.toNat<=57:=by simp only[fM,a04,decide_eq_true_eq]at h;exact h
theorem l8{a b:UInt8}:a<b↔a.toNat<b.toNat:=UInt8.lt_iff_toNat_lt
theorem oW: ∀(a b:List UInt8),Q a=Q b->a.all fM=true->b.all fM=true->((Op.bytesLess a b=true↔val a<val b)/\(a=b↔val a=val b))
 | [],[],_,_,_=>⟨by constructor<;>(intro h;exact absurd h e_),by simp⟩
 |c::a,d::b,hl,ha,hb=>by
  rw[a0l,a04]at ha hb;have T:Q a=Q b:=by simpa using hl
  have⟨E,O⟩:=oW a b T ha.2 hb.2;have Z:=val_lt' ha.2;have vb:=val_lt' hb.2;have ra:=dig_rng ha.1;have rb:=dig_rng hb.1;rw[val_cons,val_cons,←T];rw[←T]at vb;have hp:0<10^(Q a):=Nat.pos_of_ne_zero m_;generalize 10^(Q a)=p at Z vb hp⊢;have key: ∀{x y u w:Nat},x<y->u<p->w<p->x *p+u<y *p+w:=by intro x y u w hx hu hw;have:(x+1) *p<=y *p:=a0G p hx;rw[a10,Nat.one_mul]at this;omega
  have e:(c=d)↔c.toNat=d.toNat:=⟨λh=>by rw[h],λh=>UInt8.toNat_inj.1 h⟩
  rcases Nat.lt_trichotomy c.toNat d.toNat with h|h|h
  ·have:=key (x:=c.toNat-48) (y:=d.toNat-48) M Z vb;refine⟨⟨λ_=>this,λ_=>?_⟩,⟨λk=>?_,λk=>by omega⟩⟩
   ·show(decide (c<d)||_)=true;rw[decide_eq_true (l8.2 h)];rfl
   injection k with k1 k2;rw[k1]at h;omega
  ·obtain rfl:=e.2 h;refine⟨⟨λk=>?_,λk=>?_⟩,⟨λk=>?_,λk=>?_⟩⟩
   ·have U:(decide (c<c)||(c==c&&Op.bytesLess a b))=true:=k;rw[decide_eq_false (λq=>by have:=l8.1 q;omega),a1c,a04]at U;have:=E.1 U.2;omega
   ·show(decide (c<c)||(c==c&&Op.bytesLess a b))=true;rw[E.2 M];simp
   ·injection k with _ k2;have:=O.1 k2;omega
   rw[O.2 M]
  have:=key (x:=d.toNat-48) (y:=c.toNat-48) M vb Z;refine⟨⟨λk=>?_,λk=>by omega⟩,⟨λk=>?_,λk=>by omega⟩⟩
  ·have U:(decide (c<d)||(c==d&&Op.bytesLess a b))=true:=k;rw[decide_eq_false (λq=>by have:=l8.1 q;omega),a1c,a04]at U;have:=(beq_iff_eq.1 U.1);rw[this]at h;omega
  injection k with k1 _;rw[k1]at h;omega
theorem dig_eq:fM=bG:=rfl
theorem vn_iff{s:List UInt8}(Z:s≠ []):dy s=true↔lB s=true/\val s<=9223372036854775808:=by
 have hl:1<=Q s:=by cases s with|nil=>exact absurd rfl Z|cons _ _=>simp
 have hd:Y s 0 0=s.headD 0:=by cases s<;>rfl
 unfold dy lB;rw[hd,dig_eq];constructor
 ·intro h;simp only[a04,a0E,decide_eq_true_eq]at h⊢;have⟨O,U,T⟩:=h;have hv:val s<=9223372036854775808/\(Q s)<=19:=by
   rcases T with T|⟨T,E⟩
   ·have:=val_lt' (l:=s) O;have h5:10^(Q s)<=10^18:=Nat.pow_le_pow_right e_ M;exact⟨M,M⟩
   have hs:Q s=19:=beq_iff_eq.1 T;have⟨k1,k2⟩:=oW s kY hs O e_;have e:val kY=9223372036854775808:=by decide
   refine⟨?_,M⟩;rcases E with E|E
   ·have:=k1.1 E;omega
   rw[beq_iff_eq.1 E];omega
  exact⟨⟨⟨⟨hl,hv.2⟩,O⟩,U⟩,hv.1⟩
 intro h;simp only[a04,a0E,decide_eq_true_eq]at h⊢;have⟨⟨⟨⟨_,h5⟩,O⟩,U⟩,T⟩:=h;refine⟨O,U,?_⟩;rcases a0p (Q s) 19 with E|E
 ·exact .inl E
 have hs:Q s=19:=M
 refine .inr ⟨beq_iff_eq.2 hs,?_⟩;have⟨k1,k2⟩:=oW s kY hs O e_;have e:val kY=9223372036854775808:=by decide
 rcases a0p (val s) 9223372036854775808 with h6|h6
 ·exact .inl (k1.2 M)
 exact .inr (beq_iff_eq.2 (k2.2 M))
theorem word_head{s:List UInt8}:(aN s=0->br (Y s 0 0)=false)/\(aN s≠0->br (Y s 0 0)=true):=by
 cases s with
 |nil=>exact⟨λ_=>rfl,λh=>absurd V h⟩
 |cons c s=>
  unfold aN
  rw[a1j]
  show(_->br c=false)/\(_->br c=true)
  cases br c with
  |true=>exact⟨λh=>absurd h m_,λ_=>rfl⟩
  |false=>exact⟨λ_=>rfl,λh=>absurd V h⟩
end ph
open ph
namespace ga
variable (ex:FuncId) {F:Fz} {H:Heap} {R:List Fp}
structure RdT where
 l:(List Int)
 n:Int
 deriving Inhabited
instance :Rp RdT where
 sz:=2
 rep F cs x:= ∃a0 k0,cs=[sL a0 (Q x.l) k0,iI x.n]/\in64 x.n/\SR F (sL a0 (Q x.l) k0) x.l
 len:=by rintro F cs x ⟨a0,k0,rfl,_⟩;rfl
 one:=by rintro F cs x ⟨a0,k0,rfl,_⟩;rfl
 ac:=by rintro F F' cs x hF ⟨a0,k0,rfl,h0,h1⟩;exact⟨a0,k0,V,h0,h1.ac hF⟩
theorem oL{n m:Int}(T:0<m):0<=mA n m/\mA n m<m:=by
 have E: -m<n.tmod m:=Int.lt_tmod_of_pos n T;have O:n.tmod m<m:=Int.tmod_lt_of_pos n T;unfold mA;by_cases hc:n.tmod m<0
 ·simp only[decide_eq_true hc,cond_true];omega
 simp only[decide_eq_false hc,cond_false];omega
def ah(n:Int)(m:Nat):Nat:=(mA n m).toNat
theorem di{n:Int}{m:Nat}(h:0<m):ah n m<m:=by have:=oL (n:=n) (m:=(m:Int)) M;unfold ah;omega
theorem aF(n:Int)(m:Nat):0<m->ah n m<m:=di
def bo(f:Int):List Str:=if f=0 then [⟨[120]⟩,⟨[121]⟩,⟨[105]⟩,⟨[106]⟩] else [⟨[110]⟩,⟨[105]⟩]
def edgesG:List Int:=[0,1,-1,2,-9223372036854775808,9223372036854775807,4294967296,-2147483648,63,64]
def ot(n:Nat)(E:Int):Int:=if ah n 24<10 then Y edgesG (ah n 24) 0 else if ah n 24<22 then(ah ((n/24:Nat):Int) 17:Int)-6 else E
def abG:List Str:=[⟨[97]⟩,⟨[98]⟩]
def hdG(r:RdT):Int:=r.l.headD 0
def au(r:RdT):RdT:=⟨r.l.tail,r.n⟩
def nmG(f n:Int):Str:=Y (bo f) (((ah (n.tdiv 16) 1000:Nat):Int).tmod (Q (bo f):Int)).toNat default
def gn(f n:Int)(deep:Bool):ExpT:=
 if ah n 16%2=0\/(deep=true/\8<ah n 16) then mkE 2 0 (nmG f n) 0 []
 else mkE 1 (ot (ah (n.tdiv 16) 1000) n) bP 0 []
def ap(f:Int):Nat->RdT->ExpT×RdT
 |0,r=>(gn f (hdG r) true,au r)
 |d+1,r=>
  if ah (hdG r) 16<4 then(gn f (hdG r) false,au r)
  else if ah (hdG r) 16<6 then(mkE 3 0 (Y abG (ah ((hdG r).tdiv 16) 1000%2) default) 0 [(ap f d (au r)).1],(ap f d (au r)).2)
  else if ah (hdG r) 16<7 then(mkE 5 0 bP 0 [(ap f d (au r)).1,(ap f d (ap f d (au r)).2).1,(ap f d (ap f d (ap f d (au r)).2).2).1],(ap f d (ap f d (ap f d (au r)).2).2).2)
  else if ah (hdG r) 16<9 then(mkE 4 0 bP (Y ([20,21]:List Int) (ah ((hdG r).tdiv 16) 1000%2) 0) [(ap f d (au r)).1],(ap f d (au r)).2)
  else(mkE 4 0 bP (4+((ah ((hdG r).tdiv 16) 1000%15:Nat):Int)) [(ap f d (au r)).1,(ap f d (ap f d (au r)).2).1],(ap f d (ap f d (au r)).2).2)
theorem sr_in{F}{v:Value}{l:List Int}(h:SR F v l)(i:Nat):in64 (Y l i 0):=by
 rcases a0p i (Q l) with hi|hi
 ·have⟨cf,hc⟩:=h.Gg;exact((hc i).1 0 hi).1.2
 rw[bW hi];decide
theorem len0{l:List Int}(h:(Q l:Int)=0):l=[]:=a0e M
theorem hd_0{r:RdT}(h:r.l=[]):(0:Int)=hdG r:=by unfold hdG;rw[h];rfl
theorem hd_1{r:RdT}:Y r.l 0 0=hdG r:=by unfold hdG;cases r.l<;>rfl
theorem nx_0{r:RdT}(h:r.l=[]):(⟨r.l,r.n⟩:RdT)=au r:=by unfold au;rw[h];rfl
theorem nx_1{r:RdT}:(⟨r.l.drop 1,r.n⟩:RdT)=au r:=by unfold au;rw[List.drop_one]
theorem os_nin{α:Type} [Rp α]{B:Base}{F}{H:Heap}{L R:List Fp}{v:Value}{l:List α}{p q}{i j m:Nat}(h:OS F v l p)(s:HS B F H L R)(hi:L[i]?=some p)(O:L[j]?=some q)(E:i≠j)(T:m<Q l):sB v∉q.map Prod.fst:=by
 rcases h with⟨_,rfl,_⟩|⟨b,off,k,cs,U,rfl,rfl,_⟩
 ·exact absurd T (Nat.not_lt_zero _)
 exact s.nin hi O E (a0I.2 V)
theorem nm_pos(f:Int):0<Q (bo f):=by unfold bo;split<;>decide
theorem nm_lt(f:Int)(a:Nat):((a:Int).tmod (Q (bo f):Int)).toNat<Q (bo f):=by have h:=nm_pos f;have E:=Int.tmod_lt_of_pos (a:Int) (b:=(Q (bo f):Int)) M;omega
theorem nm_ge(f:Int)(a:Nat):0<=(a:Int).tmod (Q (bo f):Int):=Int.tmod_nonneg _ (Int.natCast_nonneg _)
theorem nm_lti(f:Int)(a:Nat):(a:Int).tmod (Q (bo f):Int)<(Q (bo f):Int):=by have:=nm_ge f a;have:=nm_lt f a;omega
theorem lf_v{f n:Int}{deep:Nat}(h:ah n 16%2=0\/(3<deep/\8<ah n 16)):gn f n (decide (3<deep))=⟨2,0,nmG f n,0,[]⟩:=by unfold gn;rw[if_pos (by rw[decide_eq_true_eq];exact h)];rfl
theorem lf_n{f n:Int}{deep:Nat}(h: ¬(ah n 16%2=0\/(3<deep/\8<ah n 16))):gn f n (decide (3<deep))=⟨1,ot (ah (n.tdiv 16) 1000) n,⟨[]⟩,0,[]⟩:=by unfold gn;rw[if_neg (by rw[decide_eq_true_eq];exact h)];rfl
theorem ex_A{f:Int}{r:RdT}{deep:Nat}(hd:deep<=4)(h:ah (hdG r) 16<4\/3<deep):ap f (4-deep) r=(gn f (hdG r) (decide (3<deep)),au r):=by
 rcases a0p 3 deep with E|E
 ·rw[show 4-deep=0 by omega,ap,decide_eq_true E]
 rw[show 4-deep=(3-deep)+1 by omega,ap,if_pos M,decide_eq_false M]
theorem ex_B{f:Int}{r:RdT}{deep:Nat}(h: ¬(ah (hdG r) 16<4\/3<deep))(E:ah (hdG r) 16<6):ap f (4-deep) r=(⟨3,0,Y abG (ah ((hdG r).tdiv 16) 1000%2) default,0,[(ap f (4-(deep+1)) (au r)).1]⟩,(ap f (4-(deep+1)) (au r)).2):=by rw[show 4-deep=(4-(deep+1))+1 by omega,ap,if_neg M,if_pos E];rfl
theorem ex_C{f:Int}{r:RdT}{deep:Nat}(h: ¬(ah (hdG r) 16<4\/3<deep))(E: ¬ah (hdG r) 16<6)(O:ah (hdG r) 16<7):ap f (4-deep) r=(⟨5,0,⟨[]⟩,0,[(ap f (4-(deep+1)) (au r)).1,(ap f (4-(deep+1)) (ap f (4-(deep+1)) (au r)).2).1,(ap f (4-(deep+1)) (ap f (4-(deep+1)) (ap f (4-(deep+1)) (au r)).2).2).1]⟩,(ap f (4-(deep+1)) (ap f (4-(deep+1)) (ap f (4-(deep+1)) (au r)).2).2).2):=by rw[show 4-deep=(4-(deep+1))+1 by omega,ap,if_neg M,if_neg E,if_pos O];rfl
theorem ex_D{f:Int}{r:RdT}{deep:Nat}(h: ¬(ah (hdG r) 16<4\/3<deep))(E: ¬ah (hdG r) 16<7)(O:ah (hdG r) 16<9):ap f (4-deep) r=(⟨4,0,⟨[]⟩,Y ([20,21]:List Int) (ah ((hdG r).tdiv 16) 1000%2) 0,[(ap f (4-(deep+1)) (au r)).1]⟩,(ap f (4-(deep+1)) (au r)).2):=by rw[show 4-deep=(4-(deep+1))+1 by omega,ap,if_neg M,if_neg M,if_neg E,if_pos O];rfl
theorem ex_E{f:Int}{r:RdT}{deep:Nat}(h: ¬(ah (hdG r) 16<4\/3<deep))(E: ¬ah (hdG r) 16<9):ap f (4-deep) r=(⟨4,0,⟨[]⟩,4+((ah ((hdG r).tdiv 16) 1000%15:Nat):Int),[(ap f (4-(deep+1)) (au r)).1,(ap f (4-(deep+1)) (ap f (4-(deep+1)) (au r)).2).1]⟩,(ap f (4-(deep+1)) (ap f (4-(deep+1)) (au r)).2).2):=by rw[show 4-deep=(4-(deep+1))+1 by omega,ap,if_neg M,if_neg M,if_neg M,if_neg E];rfl
theorem edges_in: ∀k,in64 (Y edgesG k 0):=by
 intro k;rcases a0p k 10 with h|h
 ·have: ∀k:Fin 10,in64 (Y edgesG k.val 0):=by decide
  exact this ⟨k,h⟩
 rw[show Y edgesG k 0=0 from bW h];decide
theorem word_in{n:Nat}{E:Int}(h:in64 E):in64 (ot n E):=by
 unfold ot;have:=di (n:=((n/24:Nat):Int)) (m:=17) e_;split
 ·exact edges_in _
 split
 ·omega
 exact h
theorem pickn_c(n:Int)(m:Nat)(H:Heap)(E:0<m/\m<9223372036854775808):kKt ex 17 [n,(m:Int)] H λv H'=> ∃(r:Nat),H'=H/\v=iI (r:Int)/\r=ah n m/\r<m:=by
 refine(l1.pick_c_q ex n m H M).ac λv H' h=>?_
 obtain⟨rfl,rfl⟩:=h;have:=oL (n:=n) (m:=(m:Int)) M;exact⟨_,V,by unfold ah;congr 1;omega,V,by unfold ah;omega⟩
theorem aE(n:Int)(m:Nat)(H:Heap)(E:0<m/\m<9223372036854775808):kKt ex 17 [n,(m:Int)] H λv H'=>v=(iI ((ah n m:Nat):Int))/\H'=H:=
 cq (pickn_c ex n m H E) (by rintro _ _ ⟨_,rfl,rfl,rfl,_⟩;exact⟨V,V⟩)
theorem gnames_c(f:Int)(hs:Hb H F H [] R):kKt ex 46 [f] H λv H'=> ∃ax,∃(kx:Nat) (x:List Str),∃F',F.le F'/\Hb H F' H' [] R/\v=sL ax (Q x) kx/\Sr F' ax x kx/\x=bo f:=by
 refine ay Tryz.func46 V V (aj 1 V (wr 3 [] 2 2 [] [(2,(sL _ 0 0))] trivial V V λ_=>wr 1 [] 3 4 [] [(4,(f==0))] trivial V V λ_=>zI 1 2 (λc3=>?_) λc3=>?_))
 ·refine ab (zlo _ hs V j_ V λE k4 p4 H5 Z a1=>za (sL E (Q ([_,_,_,_]:List Str)) k4) (ai 1 V ?_));have⟨F6,T,a2,an,ba⟩:=OS.Gi Z a1 (i:=0) V;refine ag ⟨.inr V,_,V,E,k4,_,_,(T),(HS.G3 a2),V,an,(by(unfold bo;simp_all;done))⟩
 refine ab (zlo _ hs V j_ V λO k7 p7 H8 al a3=>za (sL O (Q ([_,_]:List Str)) k7) (ai 1 V ?_));have⟨F9,U,a5,aA,bb⟩:=OS.Gi al a3 (i:=0) V;refine ag ⟨.inr V,_,V,O,k7,_,_,(U),(HS.G3 a5),V,aA,(by(unfold bo;simp_all;done))⟩
theorem gword_c(n:Nat)(al:Int)(hs:Hb H F H [] R)(a3:in64 al)(hn:n<1000):kKt ex 47 [(n:Int),al] H λv H'=> ∃(x:Int),∃F',F.le F'/\Hb H F' H' [] R/\v=iI x/\x=ot n al/\(in64 x):=by
 refine ay Tryz.func47 V V (aj 1 V (wr 2 [] 4 4 [] [(4,(.int _ 0))] trivial V V λ_=>ab (zlo ([0,1,_,2,_,_,_,_,63,64]:List Int) hs V (RL.cs ⟨V,M⟩ (RL.cs ⟨V,M⟩ (RL.cs ⟨V,M⟩ (RL.cs ⟨V,M⟩ (RL.cs ⟨V,M⟩ (RL.cs ⟨V,M⟩ (RL.cs ⟨V,M⟩ (RL.cs ⟨V,M⟩ (RL.cs ⟨V,M⟩ (RL.cs ⟨V,M⟩ RL.nl)))))))))) V λa2 k2 p2 U O E=>za (sL a2 _ k2) ?_)));refine ai 2 V ?_;have a1:=aF (n:Int) 24;refine wr 4 [(1,.o (.int _ _))] 8 9 [6] [(6,(.int _ _))] (vA (aE ex _ 24 U M) trivial) V V λ_=>wr 1 [] 10 12 [] [(10,(decide (((ah _ 24:Nat):Int)<10)))] trivial V V λ_=>zd 1 1 (λc7=>?_) λc7=>?_
 ·have⟨aA,T⟩:=Sv.Gg (OS.sv O E (i:=0) V);have g9:=fI (T (ah (n:Int) 24));refine wrp 1 13 16 [4] [(4,(.int _ _))] (Ha_ (Sv.ix (OS.sv O E (i:=0) V) M (show((ah _ 24:Nat):Int)<(10:Int) from by omega)) (Hl_ 3 (ql 2 0 (vI (T (ah _ 24)) (show ah _ 24<10 from by omega)) V V) Hn_)) V V λ_=>ag ⟨.inr V,_,V,(Y ([0,1,_,2,_,_,_,_,63,64]:List Int) (ah (n:Int) 24) 0),_,fR,(HS.G3 E),V,(by unfold ot;first|(rw[if_pos M]<;>rfl)|(rw[if_neg M,if_pos M])|(rw[if_neg M,if_neg M])),M⟩
 refine wr 1 [] 17 19 [] [(17,(decide (((ah _ 24:Nat):Int)<22)))] trivial V V λ_=>zd 1 3 (λZ=>?_) λZ=>?_
 ·have ax:=aF ((n/24:Nat):Int) 17;refine wr 1 [(2,.o (iI _))] 20 23 [4] [(4,(.int _ _))] (vA (vA (show(24:Int)≠0 from by decide) (vi (n:=((n/24:Nat):Int)) M)) (vA (aE ex _ 17 U M) (vA (vi (n:=((ah ((n/24:Nat):Int) 17:Nat):Int)-6) M) trivial))) V V λ_=>ag ⟨.inr V,_,V,((ah ((n/24:Nat):Int) 17:Nat):Int)-6,_,fR,(HS.G3 E),V,(by unfold ot;first|(rw[if_pos M]<;>rfl)|(rw[if_neg M,if_pos M])|(rw[if_neg M,if_neg M])),M⟩
 refine wr 1 [] 4 4 [24] [(4,(.int _ al))] trivial V V λ_=>ag ⟨.inr V,_,V,al,_,fR,(HS.G3 E),V,(by unfold ot;first|(rw[if_pos M]<;>rfl)|(rw[if_neg M,if_pos M])|(rw[if_neg M,if_neg M])),M⟩
theorem kJ{T Z ar}(r:RdT)(hs:HS (.of H [ar]) F H [(fP ar [(S_ T r.l Z),r.n])] R)(ax:Sr F T r.l Z)(bb:in64 r.n):kKt ex 16 [(pT ar 0)] H λv H'=> ∃(x:Int) (r':RdT),∃O,∃(U:Nat),∃F',F.le F'/\HS (.of H [ar]) F' H' [(fP ar [(S_ O r'.l U),r'.n])] R/\v=iI x/\in64 r'.n/\Sr F' O r'.l U/\x=hdG r/\r'=au r/\(in64 x):=by
 have aA:=sr_in (by assumption:SR F _ r.l) 0;refine ay Tryz.func16 V V (aj 1 V (wr 3 [] 2 2 [] [(2,(.int _ 0))] trivial V V λ_=>bQ 1 4 9 [] [(9,((Q r.l:Int)==0))] (Hr_ 3 0 Hn_) hs V V λ_=>zI 1 2 (λc3=>?_) λc3=>?_))
 ·have c1:=len0 c3;refine wr 1 [] 2 2 [] [(2,(.int _ 0))] trivial V V λ_=>ag ⟨.inr V,_,V,0,r,_,_,_,fR,(HS.G9 hs),V,M,ax,(hd_0 c1),(nx_0 c1),e_⟩
 have⟨a6,al⟩:=Sv.Gg (SR.sv ax hs);have g6:=fI (al 0);refine bQ 2 10 15 [3] [(3,(.int _ _))] (Hr_ 3 0 (Ha_ (Sv.ix (SR.sv ax hs)) (Hl_ 5 (ql 3 0 (vI (al 0)) V V) Hn_))) hs V V λ_=>ab (cS 5 0 16 20 [] [(16,(pT ar 0)),(20,(sL _ _ _))] (Hr_ 4 0 Hn_) hs V V λ_=>bd (rs_cutd (i:=1) ax hs V V V (optN e_) M) V V ?_)
 rintro _ _ _ ⟨a9,k9,rfl,E,a1⟩;simp only at E;replace E:=E.symm;subst E;refine sgo 3 6 22 23 [] [] (Hr_ 8 0 Hn_) hs V V λa3 a5 an=>ai 2 V (wr 1 [] 2 2 [24] [(2,(.int _ _))] trivial V V λ_=>ag ⟨.inr V,_,V,_,_,a9,k9,_,fR,(HS.G9 an),V,M,a1,(hd_1),(nx_1),(aA)⟩)
theorem gexpr_c_aux: ∀(fuel:Nat) {bn} {b4:Nat} {ar:Nat} (r:RdT) (f:Int) (deep:Nat) {F} {H:Heap} {R:List Fp} (hs:HS (.of H [ar]) F H [(fP ar [(S_ bn r.l b4),r.n])] R) (cv:Sr F bn r.l b4) (ie:in64 r.n) (hd:deep<=4),4-deep<fuel->kKt ex 14 [(pT ar 0),f,(deep:Int)] H λv H'=> ∃(x:ExpT),∃ci,∃(d1:Nat) (r':RdT),∃ch,∃(dt:Nat),∃F',F.le F'/\HS (.of H [ar]) F' H' [(fP ar [(S_ ch r'.l dt),r'.n])] R/\v= .agg ⟨[iI x.j,iI x.n,tX x.pp.b,iI x.op,sL ci x.I.length d1]⟩/\in64 x.j/\in64 x.n/\in64 x.op/\Sr F' ci x.I d1/\in64 r'.n/\Sr F' ch r'.l dt/\x=(ap f (4-deep) r).1/\r'=(ap f (4-deep) r).2:=by
 intro fuel;induction fuel with
 |zero=>intros;omega
 |succ fuel ih=>
 intro bn b4 ar r f deep F H R hs cv ie hd qv;refine ay Tryz.func14 V V (aj 1 V (ab (zn hs V λb1 H2 et=>ai 2 V (ab ?_))));refine zm (pT ar 0) (zc (kJ ex r (g_ et V) cv M) ?_);rintro _ H3 ⟨x3,qa,ll,lz,F3,a8,b5,rfl,lx,E,rfl,rfl,h3⟩;replace b5:=et.bO b5;refine za (.int _ _) (ai 2 V (ab (zm _ (zc (gnames_c ex f (HS.call b5)) ?_))));rintro _ H4 ⟨h4,k6,x4,F4,ax,O,rfl,c7,rfl⟩;replace O:=HS.G8 b5 V O;have E:=E.ac ax;refine za (sL h4 _ k6) (ai 2 V ?_);have p1:=aF (hdG r) 16;refine wr 2 [(1,.o (.int _ _))] 15 16 [9] [(9,(.int _ _))] (vA (aE ex _ 16 H4 M) trivial) V V λ_=>?_
 have qb:in64 (hdG r)->in64 (Int.tdiv (hdG r) 16):=λh=>vq h e_
 have p2:=aF (Int.tdiv (hdG r) 16) 1000;refine wr 4 [(2,.o (.int _ _))] 17 19 [10] [(10,(.int _ _))] (vA (vA (show(16:Int)≠0 from by decide) (vq M e_)) (vA (aE ex (Int.tdiv _ 16) 1000 H4 M) trivial)) V V λ_=>wr 1 [] 20 26 [] [(20,((decide (((ah _ 16:Nat):Int)<4))||(decide ((3:Int)<(deep:Int)))))] trivial V V λ_=>zI 2 1 (λh8=>?_) λh8=>?_
 ·refine wr 1 [] 27 37 [] [(37,(((((ah _ 16)%2:Nat):Int)==0)||((decide ((3:Int)<(deep:Int)))&&(decide ((8:Int)<((ah _ 16:Nat):Int))))))] (vA (show(2:Int)≠0 from by decide) trivial) V V λ_=>zI 1 2 (λh9=>?_) λh9=>?_
  ·have⟨mx,gm⟩:=Sv.Gg (SR.sv c7 O);refine sgr 1 38 45 [] [] (Ha_ (show((bo f).length:Int)≠0 from by(have:=nm_pos f;omega)) (Ha_ (Sv.ix (SR.sv c7 O) (nm_ge _ _) (nm_lti _ _)) (Hl_ 6 (ql 9 0 (vS (gm (Int.tmod _ _).toNat) (nm_lt _ _)) V V) (Hr_ 8 1 Hn_)))) O V V λm2 pj c8=>ag ⟨.inr V,_,(rC V (bV V V (i_ c8 V) V) rN),(⟨2,0,_,0,_⟩:ExpT),_,0,_,_,_,_,(fT (a8) ax),(HS.G9 c8),V,M,M,M,(SR.nil:SR F4 _ _),M,E,(by(rw[ex_A (r:=r) hd M]<;>first|rfl|(rw[lf_v M]<;>rfl)|(rw[lf_n M]<;>rfl))),(by(rw[ex_A (r:=r) hd M]<;>first|rfl|(rw[lf_v M]<;>rfl)|(rw[lf_n M]<;>rfl)))⟩
  refine ab (cu 2 0 46 47 [] [(46,(.int _ _)),(47,(.int _ _))] Hn_ V V λ_=>zc (gword_c ex (ah (Int.tdiv (hdG r) 16) 1000) (hdG r) (HS.call O) M M) ?_);rintro _ pl ⟨qc,hw,co,b0,rfl,rfl,p3⟩;replace b0:=HS.G8 O V b0;have E:=E.ac co;refine sgo 2 3 49 49 [] [] (Hr_ 4 1 Hn_) b0 V V λm3 pm c9=>ai 1 V (ag ⟨.inr V,_,(rC V (bV V V (i_ c9 V) V) rN),(⟨1,ot _ _,_,0,([]:List ExpT)⟩:ExpT),_,0,_,_,_,_,(fT (fT (a8) ax) co),(HS.G9 c9),V,M,M,M,(SR.nil:SR hw _ _),M,E,(by(rw[ex_A (r:=r) hd M]<;>first|rfl|(rw[lf_v M]<;>rfl)|(rw[lf_n M]<;>rfl))),(by(rw[ex_A (r:=r) hd M]<;>first|rfl|(rw[lf_v M]<;>rfl)|(rw[lf_n M]<;>rfl)))⟩)
 refine wr 1 [] 50 52 [] [(50,(decide (((ah _ 16:Nat):Int)<6)))] trivial V V λ_=>zd 1 1 (λia=>?_) λia=>?_
 ·refine az V (kv (ja ([_,_]:List Str) O.G5 V V V V ⟨_,_,V,V,⟨_,[],V,V,V⟩⟩ V) V V (λ_ _ _ _=>did_n V V V) trivial ?_);rintro _ hx p4 ⟨hF,jA,rfl,bw,T,_⟩ go d5;replace T:=HS.lg T O d5;generalize ({hx with log:=go}:Heap)=l5 at T⊢;refine zfm _ (wfv (v:=(.int _ (((ah _ _)%2:Nat):Int))) (ap_mod V V e_ V) (wfv (v:=(.pointer (some ⟨_,sO (sL hF _ jA)+((ah _ _)%2) *Rp.sz Str,_⟩))) (dw (j:=(((ah _ _)%2:Nat):Int)) V V V V (OS.sv bw T.G5 (i:=2) V) M (by(show _<2;omega))) ?_));have⟨m0,fi,e5⟩:=Sv.at (OS.sv bw T.G5 (i:=2) V) (aT (x:=default) (show(ah (Int.tdiv (hdG r) 16) 1000)%2<([⟨[97]⟩,⟨[98]⟩]:List Str).length from by(show _<2;omega)));obtain rfl:=fi;refine zl 0 e5 (zfm (pT ar 0) (zfm _ (zfm _ (wfv (iC V V (lA (n:=(deep:Int)+1) M)) (wcD [ar] (j:=0) T V V (ih _ f (deep+1) (HS.Gh T.G5 (i:=0) V) E M M M) V V (⟨.inl V,.inl V,.inl V,.inl V,.inr (os_nin (m:=0) bw T (i:=2) (j:=0) V V e_ e_),.inr trivial,.inr trivial,.inr trivial,.inr (HS.ownlt O (i:=0) V),trivial⟩) ?_)))));rintro _ pv ⟨qd,hX,k0,n2,hJ,ki,ox,e1,a9,rfl,g5,g6,g7,b6,iv,a4,rfl,rfl⟩;refine⟨_,_,_,a9,λma a9=>?_⟩;refine kv (ja [(ap f _ _).1] a9.G5 V V V V ⟨_,[],V,(ExpT.mkr ⟨_,_,V,M,M,M,b6⟩),V⟩ V) V V (λ_ _ _ _=>did_n V V V) (kb V) ?_;rintro _ hy p5 ⟨ee,ez,rfl,e7,aA,_⟩ g0 d6;replace aA:=HS.lg aA a9 d6;generalize ({hy with log:=g0}:Heap)=mf at aA⊢;refine wfv (v:=(aG [(iI 3),(iI 0),(tX (([⟨[97]⟩,⟨[98]⟩]:List Str).getD ((ah (Int.tdiv (hdG r) 16) 1000)%2) default).b),(iI 0),(sL ee [(ap f (4-(deep+1)) (au r)).1].length ez)])) (lp V V K_) (ef (ck (q:=1) aA.G5 V V V V V V V V V) V (by rintro _ _ _ ⟨_,hwr⟩;exact dl V V (Wr.did hwr)) (kb V) ?_);rintro _ hz _ ⟨a1,_⟩ g1 d7;replace a1:=HS.lg a1 aA d7;generalize ({hz with log:=g1}:Heap)=mg at a1⊢;refine fE (aj 1 V ?_);have⟨o0,cL,f3,fk,m9⟩:=OS.Gi e7 a1 (i:=3) V;have a4:=a4.ac cL;refine ag ⟨.inr V,_,(rC V (bV V V (i_ a1 V) V) rN),(⟨3,0,_,0,_⟩:ExpT),ee,ez,_,_,_,_,(fT (fT (fT (a8) ax) e1) cL),(HS.G9 f3),V,M,M,M,fk,M,a4,(by(rw[ex_B (r:=r) (deep:=deep) M M]<;>rfl)),(by(rw[ex_B (r:=r) (deep:=deep) M M]<;>rfl))⟩
 refine wr 1 [] 65 67 [] [(65,(decide (((ah _ 16:Nat):Int)<7)))] trivial V V λ_=>zd 1 1 (λik=>?_) λik=>?_
 ·refine ab (cu 4 0 68 71 [] [(68,(pT ar 0)),(69,(.int _ f)),(71,(.int _ _))] (Ha_ (vi) Hn_) V V λ_=>zc (ih _ f (deep+1) (g_ O V) E M M M) ?_);rintro _ px ⟨qe,h0,k3,n3,hK,kk,o1,e2,ba,rfl,g8,g9,he,Z,i0,d2,rfl,rfl⟩;replace ba:=O.bO ba;refine cu 4 5 73 76 [] [(73,(pT ar 0)),(74,(.int _ f)),(76,(.int _ _))] (Ha_ (vi) Hn_) V V λ_=>zc (ih _ f (deep+1) (g_ ba V) d2 M M M) ?_
  rintro _ pA ⟨qf,h1,k4,n4,hQ,kl,o2,c0,bb,rfl,hf,hg,hh,al,i1,d3,rfl,rfl⟩;replace bb:=ba.bO bb;refine cu 4 10 78 81 [] [(78,(pT ar 0)),(79,(.int _ f)),(81,(.int _ _))] (Ha_ (vi) Hn_) V V λ_=>zc (ih _ f (deep+1) (g_ bb V) d3 M M M) ?_
  rintro _ pS ⟨qg,h2,k5,n5,hS,kn,o3,bt,b2,rfl,hj,hk,hl,b7,i2,a5,rfl,rfl⟩;replace b2:=bb.bO b2;replace Z:=(Z.ac c0).ac bt;have al:=al.ac bt;refine zlo _ b2 V (RL.cs (ExpT.mq Z) (RL.cs (ExpT.mq al) (RL.cs (ExpT.mq b7) RL.nl))) V λhG j1 p6 pU e8 f4=>sgo 2 16 84 84 [] [] (Hr_ 17 1 Hn_) f4 V V λm6 pV dk=>ai 1 V ?_
  have⟨o4,c3,f5,fq,nc⟩:=OS.Gi e8 dk (i:=2) V;have a5:=a5.ac c3;refine ag ⟨.inr V,_,(rC V (bV V V (i_ dk V) V) rN),(⟨5,0,_,0,_⟩:ExpT),hG,j1,_,_,_,_,(fT (fT (fT (fT (fT (a8) ax) e2) c0) bt) c3),(HS.G9 f5),V,M,M,M,fq,M,a5,(by(rw[ex_C (r:=r) (deep:=deep) M M M]<;>rfl)),(by(rw[ex_C (r:=r) (deep:=deep) M M M]<;>rfl))⟩
 refine wr 1 [] 85 87 [] [(85,(decide (((ah _ 16:Nat):Int)<9)))] trivial V V λ_=>zd 1 3 (λit=>?_) λit=>?_
 ·refine az V (kv (ja ([20,21]:List Int) O.G5 V V V V ⟨_,_,V,⟨V,M⟩,⟨_,[],V,⟨V,M⟩,V⟩⟩ V) V V (λ_ _ _ _=>did_n V V V) trivial ?_);rintro _ hB p7 ⟨hH,j2,rfl,bF,U,_⟩ g2 d8;replace U:=HS.lg U O d8;generalize ({hB with log:=g2}:Heap)=mm at U⊢;refine zfm _ (wfv (v:=(.int _ (((ah _ _)%2:Nat):Int))) (ap_mod V V e_ V) (wfv (v:=(.pointer (some ⟨_,sO (sL hH _ j2)+((ah _ _)%2) *Rp.sz Int,_⟩))) (dw (j:=(((ah _ _)%2:Nat):Int)) V V V V (OS.sv bF U.G5 (i:=2) V) M (by(show _<2;omega))) ?_));have⟨m1,fu,e6⟩:=Sv.at (OS.sv bF U.G5 (i:=2) V) (aT (x:=(0:Int)) (show(ah (Int.tdiv (hdG r) 16) 1000)%2<([20,21]:List Int).length from by(show _<2;omega)));obtain⟨rfl,lr⟩:=fu;refine zl 0 e6 (zfm (pT ar 0) (zfm _ (zfm _ (wfv (iC V V (lA (n:=(deep:Int)+1) M)) (wcD [ar] (j:=0) U V V (ih _ f (deep+1) (HS.Gh U.G5 (i:=0) V) E M M M) V V (⟨.inl V,.inl V,.inl V,.inl V,.inr (os_nin (m:=0) bF U (i:=2) (j:=0) V V e_ e_),.inr trivial,.inr trivial,.inr trivial,.inr (HS.ownlt O (i:=0) V),trivial⟩) ?_)))));rintro _ pW ⟨qh,h5,k7,n6,hT,kt,o6,e3,bf,rfl,hm,hn,ho,b8,i3,a6,rfl,rfl⟩;refine⟨_,_,_,bf,λmp bf=>?_⟩;refine kv (ja [(ap f _ _).1] bf.G5 V V V V ⟨_,[],V,(ExpT.mkr ⟨_,_,V,M,M,M,b8⟩),V⟩ V) V V (λ_ _ _ _=>did_n V V V) (kb V) ?_;rintro _ hC p8 ⟨em,e0,rfl,fb,a2,_⟩ g3 d9;replace a2:=HS.lg a2 bf d9;generalize ({hC with log:=g3}:Heap)=ms at a2⊢;refine wfv (v:=(aG [(iI 4),(iI 0),(tX []),(([20,21]:List Int).getD ((ah (Int.tdiv (hdG r) 16) 1000)%2) 0),(sL em [(ap f (4-(deep+1)) (au r)).1].length e0)])) (lp V V K_) (ef (ck (q:=1) a2.G5 V V V V V V V V V) V (by rintro _ _ _ ⟨_,hwr⟩;exact dl V V (Wr.did hwr)) (kb V) ?_);rintro _ hD _ ⟨a3,_⟩ g4 ea;replace a3:=HS.lg a3 a2 ea;generalize ({hD with log:=g4}:Heap)=mv at a3⊢;refine fE (aj 1 V ?_);have⟨o7,c4,f6,f1,nn⟩:=OS.Gi fb a3 (i:=3) V;have a6:=a6.ac c4;refine ag ⟨.inr V,_,(rC V (bV V V (i_ a3 V) V) rN),(⟨4,0,_,(([20,21]:List Int).getD _ 0),_⟩:ExpT),em,e0,_,_,_,_,(fT (fT (fT (a8) ax) e3) c4),(HS.G9 f6),V,M,M,M,f1,M,a6,(by(rw[ex_D (r:=r) (deep:=deep) M M M]<;>rfl)),(by(rw[ex_D (r:=r) (deep:=deep) M M M]<;>rfl))⟩
 refine ab (cu 7 0 100 106 [] [(102,(.int _ (4+(((ah _ _)%15:Nat):Int)))),(103,(pT ar 0)),(104,(.int _ f)),(106,(.int _ _))] (Ha_ (show(15:Int)≠0 from by decide) (Ha_ (vi (n:=4+(((ah _ _)%15:Nat):Int))) (Ha_ (vi) Hn_))) V V λ_=>zc (ih _ f (deep+1) (g_ O V) E M M M) ?_);rintro _ pX ⟨qi,h6,k8,n7,hV,kx,o8,e4,bl,rfl,hp,hq,hr,an,i9,d4,rfl,rfl⟩;replace bl:=O.bO bl;refine cu 4 8 108 111 [] [(108,(pT ar 0)),(109,(.int _ f)),(111,(.int _ _))] (Ha_ (vi) Hn_) V V λ_=>zc (ih _ f (deep+1) (g_ bl V) d4 M M M) ?_
 rintro _ pY ⟨qj,h7,k9,oo,hW,kA,o9,c5,b3,rfl,ht,hu,hv,b9,jw,a7,rfl,rfl⟩;replace b3:=bl.bO b3;have an:=an.ac c5;refine zlo _ b3 V (RL.cs (ExpT.mq an) (RL.cs (ExpT.mq b9) RL.nl)) V λhI kd p9 pZ fd f7=>sgo 2 14 114 114 [] [] (Hr_ 15 1 Hn_) f7 V V λm7 p0 dn=>ai 1 V ?_
 have⟨pi,c6,f9,f2,n1⟩:=OS.Gi fd dn (i:=2) V;have a7:=a7.ac c6;refine ag ⟨.inr V,_,(rC V (bV V V (i_ dn V) V) rN),(⟨4,0,_,_,_⟩:ExpT),hI,kd,_,_,_,_,(fT (fT (fT (fT (a8) ax) e4) c5) c6),(HS.G9 f9),V,M,M,M,f2,M,a7,(by(rw[ex_E (r:=r) (deep:=deep) M M]<;>rfl)),(by(rw[ex_E (r:=r) (deep:=deep) M M]<;>rfl))⟩
theorem fN{O Z an}(r:RdT)(f:Int)(deep:Nat)(hs:HS (.of H [an]) F H [(fP an [(S_ O r.l Z),r.n])] R)(ax:Sr F O r.l Z)(aA:in64 r.n)(hd:deep<=4):kKt ex 14 [(pT an 0),f,(deep:Int)] H λv H'=> ∃(x:ExpT),∃T,∃(al:Nat) (r':RdT),∃E,∃(U:Nat),∃F',F.le F'/\HS (.of H [an]) F' H' [(fP an [(S_ E r'.l U),r'.n])] R/\v= .agg ⟨[iI x.j,iI x.n,tX x.pp.b,iI x.op,sL T (Q x.I) al]⟩/\in64 x.j/\in64 x.n/\in64 x.op/\Sr F' T x.I al/\in64 r'.n/\Sr F' E r'.l U/\x=(ap f (4-deep) r).1/\r'=(ap f (4-deep) r).2:=
 gexpr_c_aux ex (4-deep+1) r f deep hs ax aA hd (a0y _)
end ga
end Go.Proofs.YtkpgbdkkgcdhmaaGreat
