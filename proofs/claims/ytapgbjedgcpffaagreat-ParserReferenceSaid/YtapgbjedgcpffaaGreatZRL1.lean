/-
The lexer of the program. No condition but that a text is not longer than a machine fX.
-/
import Derived.Test.YtapgbjedgcpffaaGreatZRRD
import Derived.Test.YtapgbjedgcpffaaGreatChecked
noncomputable section
namespace Go.Proofs.YtapgbjedgcpffaaGreat
abbrev kKt(e:FuncId):=Go.R.C Tryz.prog 0 (Go.R.KX e)
end Go.Proofs.YtapgbjedgcpffaaGreat
namespace Go.Proofs.YtapgbjedgcpffaaGreat.l1
open Go.R
set_option maxRecDepth 10000
set_option linter.unusedVariables false
set_option linter.unusedSimpArgs false
variable (ex:FuncId) {F:Fz} {H:Heap} {R:List Fp}
abbrev zL11:List UInt8:=[43,45,42,47,37,38,124,94,126,33,60,62,61,63,58,59,44,40,41,123,125,91,93]
abbrev zL12:List UInt8:=[57,50,50,51,51,55,50,48,51,54,56,53,52,55,55,53,56,48,56]
theorem ql{H:Heap}{b o:Nat}{cs:List Value}{w:Value}(t:TypeId)(i:Nat)(hc:HC H.get b o cs)(ha:fN Tryz.prog t=some false)(E:cs[i]?=some w):LDv Tryz.prog H t (.pointer (some ⟨b,o+i,none⟩)) w:=ld1 hc ha E
theorem qn{H:Heap}{b o:Nat}{cs l:List Value}(t:TypeId)(i n:Nat)(hc:HC H.get b o cs)(ha:fN Tryz.prog t=some true)(hs:dV Tryz.prog t=some n)(O:Nat.ble (i+n) cs.length=true)(E:en (ev cs i) n=l):LDv Tryz.prog H t (.pointer (some ⟨b,o+i,none⟩)) (.agg ⟨l⟩):=ldN hc ha hs O E
structure Token where
 kind:Int
 text:Str
 at_:Int
 deriving Inhabited
instance :Rp Token where
 sz:=3
 rep F cs x:=cs=[iI x.kind,tX x.text.b,iI x.at_]/\in64 x.kind/\in64 x.at_
 len:=by rintro F cs x ⟨rfl,_⟩;rfl
 one:=by rintro F cs x ⟨rfl,_⟩;rfl
 mono:=by intro F F' cs x _ h;exact h
theorem Token.vw{F:Fz}{get:Nat->Option AObj}{v:Value}{cf:Nat->List Value}{j:Nat}{l:List Token}(h:VW F get v l cf j)(T:j<l.length:=by first|(dsimp only;omega)|omega):HC get (sB v) (sO v+j *Rp.sz Token) [iI (l.getD j default).kind,tX (l.getD j default).text.b,iI (l.getD j default).at_]:=by obtain⟨⟨O,_⟩,E⟩:=h.1 default T;rw[show cf j=_ from O]at E;exact E
theorem Token.fx{F:Fz}{get:Nat->Option AObj}{v:Value}{cf:Nat->List Value}{j:Nat}{l:List Token}(h:VW F get v l cf j):in64 (l.getD j default).kind/\in64 (l.getD j default).at_:=by
 rcases a0c j l.length with hj|hj
 ·obtain⟨⟨T,E,O⟩,_⟩:=h.1 default hj;exact⟨E,O⟩
 rw[bh hj];exact⟨by decide,by decide⟩
structure ErrT where
 why:Int
 at_:Int
 deriving Inhabited
instance :Rp ErrT where
 sz:=2
 rep F cs x:=cs=[iI x.why,iI x.at_]/\in64 x.why/\in64 x.at_
 len:=by rintro F cs x ⟨rfl,_⟩;rfl
 one:=by rintro F cs x ⟨rfl,_⟩;rfl
 mono:=by intro F F' cs x _ h;exact h
def bT(c:UInt8):Bool:=decide (97<=c.toNat)&&decide (c.toNat<=122)||decide (65<=c.toNat)&&decide (c.toNat<=90)||c.toNat==95
def bo(c:UInt8):Bool:=decide (48<=c.toNat)&&decide (c.toNat<=57)
def aR(c:UInt8):Bool:=bT c||bo c
def aW(s:List UInt8):Nat:=(s.takeWhile aR).length
theorem gP{p:UInt8->Bool}: ∀{s:List UInt8} {n:Nat},n<=s.length->(s.take n).all p=true->(n<s.length->p (s.getD n 0)=false)->n=(s.takeWhile p).length
 | [],n,h,_,_=>by simp at h;simp[h]
 |c::s,0,_,_,O=>by have:=O (by simp);simp only[List.getD_cons_zero]at this;rw[a1R,this];rfl
 |c::s,n+1,h,E,O=>by simp only[List.take_succ_cons,a0o,a03]at E;rw[a1R,E.1];have:=gP (p:=p) (s:=s) (n:=n) (by simpa using h) E.2 (fun T=>by have:=O (by simpa using T);simpa using this);simp[←this]
theorem ia(s:List UInt8):aW s<=s.length:=(List.takeWhile_prefix _).length_le
def blankB(c:UInt8):Bool:=c==32||c==9||c==10||c==13
def isDigAll(s:List UInt8):Bool:=s.all bo
def j9:List UInt8:=[57,50,50,51,51,55,50,48,51,54,56,53,52,55,55,53,56,48,56]
def da(s:List UInt8):Bool:=s.all bo&&((s.getD 0 0 !=48||s.length==1)&&(decide (s.length<19)||s.length==19&&(Op.bytesLess s j9||s==j9)))
theorem vn1{s:List UInt8}{i:Nat}(h:i<s.length)(c:bo (s.getD i 0)=false):false=da s:=by
 have:s.all bo=false:=by rw[List.all_eq_false];refine⟨s.getD i 0,?_,by simpa using c⟩;rw[a08,a09 h];exact a0E h
 simp[da,this]
theorem all_of_take{p:UInt8->Bool}{s:List UInt8}{i:Nat}(h:s.length<=i)(E:(s.take i).all p=true):s.all p=true:=by rwa [a0D h]at E
theorem nat_beq48(c:UInt8):(((c.toNat:Int) !=48))=(c !=48):=by
 by_cases h:c=48
 ·subst h;rfl
 have:c.toNat≠48:=fun e=>h (UInt8.toNat_inj.mp (by rw[e];rfl))
 have E:((c.toNat:Int) !=48)=true:=by simp;omega
 rw[E,eq_comm];simpa using h
theorem int_beq(a:Nat)(b:Nat):((a:Int)==(b:Int))=(a==b):=by rw[a0G];simp;omega
theorem vn2{s:List UInt8}(h:s.all bo=true):(((((s.getD 0 0).toNat:Int) !=48)||((s.length:Int)==1))&&((decide ((s.length:Int)<19))||(((s.length:Int)==19)&&(Op.bytesLess s j9||s==j9))))=da s:=by rw[da,h,nat_beq48,show((s.length:Int)==1)=(s.length==1) from int_beq _ 1,show((s.length:Int)==19)=(s.length==19) from int_beq _ 19,a1o];rw[show decide ((s.length:Int)<19)=decide (s.length<19) from decide_eq_decide.mpr M]
def eC:List UInt8:=[43,45,42,47,37,38,124,94,126,33,60,62,61,63,58,59,44,40,41,123,125,91,93]
def aV(s:List UInt8):Nat:=
 if s.take 3=[62,62,62] then 3
 else if s.take 2=[60,60]\/s.take 2=[62,62]\/s.take 2=[60,61]\/s.take 2=[62,61]\/s.take 2=[61,61]\/s.take 2=[33,61] then 2
 else if s.getD 0 0∈eC then 1 else 0
theorem tk3{s:List UInt8}{a b c:UInt8}(h:(3:Int)<=s.length->s.take 3≠ [a,b,c]): ¬s.take 3=[a,b,c]:=by intro e;refine h ?_ e;have:=congrArg List.length e;rw[a0d]at this;simp only[a02,List.length_nil]at this;omega
theorem tk2{s:List UInt8}{a b:UInt8}(h:(2:Int)<=s.length->s.take 2≠ [a,b]): ¬s.take 2=[a,b]:=by intro e;refine h ?_ e;have:=congrArg List.length e;rw[a0d]at this;simp only[a02,List.length_nil]at this;omega
theorem sing_mem{c:UInt8}{i:Nat}(h:i<23)(e:((c.toNat:Int))=((eC.getD i 0).toNat:Int)):c∈eC:=by have:c=eC.getD i 0:=UInt8.toNat_inj.mp (by exact_mod_cast e);rw[this,a08,a09 (show i<eC.length from h)];exact a0E _
theorem sing_ne{c:UInt8}{i j:Nat}(e:((c.toNat:Int))≠((eC.getD i 0).toNat:Int))(E: ∀j,j<i->c≠eC.getD j 0)(h:j<i+1):c≠eC.getD j 0:=by
 rcases Nat.lt_succ_iff_lt_or_eq.mp h with h|h
 ·exact E j h
 subst h;intro O;exact e (by rw[O])
theorem sing_no{c:UInt8}(E: ∀j,j<23->c≠eC.getD j 0):c∉eC:=by intro h;obtain⟨j,O,e⟩:=a1S h;refine E j O ?_;rw[a08,a09 O];exact e.symm
theorem isLetter_c(c:UInt8)(H:Heap):kKt ex 90 [(.int .u8 (c.toNat:Int))] H fun v H'=> ∃(r:Bool),H'=H/\v= .bool r/\r=bT c:=by refine av Tryz.func90 V V (ai 1 V (wr 2 [] 2 2 [] [(2,(.bool false))] trivial V V fun _=>wr 1 [] 2 20 [] [(2,(.bool ((((decide ((97:Int)<=(c.toNat:Int)))&&(decide ((c.toNat:Int)<=122)))||((decide ((65:Int)<=(c.toNat:Int)))&&(decide ((c.toNat:Int)<=90))))||((c.toNat:Int)==95))))] trivial V V fun _=>ae ⟨.inr V,_,V,_,V,V,(by simp[bT];grind)⟩))
theorem isLetter_c_q(c:UInt8)(H:Heap):kKt ex 90 [(.int .u8 (c.toNat:Int))] H fun v H'=>v=(.bool (bT c))/\H'=H:=
 cq (isLetter_c ex c H) (by rintro _ _ ⟨_,rfl,rfl,rfl⟩;exact⟨V,V⟩)
theorem isDigit_c(c:UInt8)(H:Heap):kKt ex 69 [(.int .u8 (c.toNat:Int))] H fun v H'=> ∃(r:Bool),H'=H/\v= .bool r/\r=bo c:=by refine av Tryz.func69 V V (ai 1 V (wr 2 [] 2 2 [] [(2,(.bool false))] trivial V V fun _=>wr 1 [] 2 8 [] [(2,(.bool ((decide ((48:Int)<=(c.toNat:Int)))&&(decide ((c.toNat:Int)<=57)))))] trivial V V fun _=>ae ⟨.inr V,_,V,_,V,V,(by simp[bo];grind)⟩))
theorem iQ(c:UInt8)(H:Heap):kKt ex 69 [(.int .u8 (c.toNat:Int))] H fun v H'=>v=(.bool (bo c))/\H'=H:=
 cq (isDigit_c ex c H) (by rintro _ _ ⟨_,rfl,rfl,rfl⟩;exact⟨V,V⟩)
theorem wordLen_c(s:List UInt8)(H:Heap)(hl:s.length<4611686018427387904):kKt ex 67 [(tX s)] H fun v H'=> ∃(r:Nat),H'=H/\v=iI (r:Int)/\r=aW s:=by
 refine av Tryz.func67 V V (ai 1 V (wr 2 [] 2 2 [] [(2,(.int _ 0))] trivial V V fun _=>wr 3 [] 1 0 [3] [(3,(.int _ 0))] trivial V V fun _=>aq (fun(mm:Nat) f H'=> ∃(n:Nat),H'=H/\aJ f [(0,(tX s)),(3,(.int _ (n:Int)))]/\mm=s.length-n/\(n<=s.length)/\((s.take n).all aR=true)) _ ⟨0,V,⟨V,V,trivial⟩,V,M,k_⟩ ?_));rintro a0 f3 H ⟨n,rfl,T,rfl,h1,Y⟩ Z;refine az _ T (fun _=>?_);clear T;refine ai 2 V ?_;have an:=dD (s.getD n 0);have ax:=dD (s.getD n 0);refine wr 1 [(8,.o (.bool (bT (s.getD n 0)))),(13,.o (.bool (bo (s.getD n 0))))] 4 19 [] [(19,(.bool ((decide ((n:Int)<(s.length:Int)))&&(bT (s.getD n 0)||bo (s.getD n 0)))))] (vA (fun(E:_)=>(vA (show(0:Int)<=(n:Int) from by(try simp only[BS]at E);omega) (show(n:Int)<(((s:List UInt8).length:Nat):Int) from by(try simp only[BS]at E);omega))) (vA (fun(E:_)=>(isLetter_c_q ex _ H)) (vA (fun(E:_) (U:_)=>(vA (show(0:Int)<=(n:Int) from by(try simp only[BS]at E U);omega) (show(n:Int)<(((s:List UInt8).length:Nat):Int) from by(try simp only[BS]at E U);omega))) (vA (fun(E:_) (U:_)=>(iQ ex _ H)) trivial)))) V V fun _=>zi 2 5 (fun O=>?_) fun O=>?_
 ·try simp only[BS]at O
  have c:=O;refine wr 2 [] 20 21 [3] [(3,(.int _ _))] (vA (vi) trivial) V V fun _=>?_
  refine Z _ _ _ ?_ ⟨n+1,V,⟨V,V,trivial⟩,V,M,(by rw[gB M,Y,aR];simpa using c.2)⟩;omega
 try simp only[BS]at O
 have c:=O;refine wr 1 [] 2 2 [22] [(2,(.int _ _))] trivial V V fun _=>ae ⟨.inr V,_,V,n,V,V,(gP h1 Y (fun hn=>by have:=c M;rw[aR,this.1,this.2];rfl))⟩
theorem wordLen_c_q(s:List UInt8)(H:Heap)(E:s.length<4611686018427387904):kKt ex 67 [(tX s)] H fun v H'=>v=(iI ((aW s:Nat):Int))/\H'=H:=
 cq (wordLen_c ex s H E) (by rintro _ _ ⟨_,rfl,rfl,rfl⟩;exact⟨V,V⟩)
theorem validNum_c(s:List UInt8)(H:Heap)(hl:s.length<4611686018427387904)(h0:0<s.length):kKt ex 70 [(tX s)] H fun v H'=> ∃(r:Bool),H'=H/\v= .bool r/\r=da s:=by
 refine av Tryz.func70 V V (ai 1 V (wr 3 [] 2 2 [] [(2,(.bool false))] trivial V V fun _=>wr 2 [] 1 0 [3] [(3,(.int _ 0))] trivial V V fun _=>aq (fun(mm:Nat) f H'=> ∃(i:Nat),H'=H/\aJ f [(0,(tX s)),(3,(.int _ (i:Int)))]/\mm=s.length-i/\(i<=s.length)/\((s.take i).all bo=true)) _ ⟨0,V,⟨V,V,trivial⟩,V,M,k_⟩ ?_));rintro an f3 H ⟨i,rfl,O,rfl,h1,U⟩ Y;refine az _ O (fun _=>?_);clear O;refine ai 2 V (wr 1 [] 4 7 [] [(7,(.bool (decide ((i:Int)<(s.length:Int)))))] trivial V V fun _=>zd 4 5 (fun T=>?_) fun T=>?_)
 ·have ci:=T;have al:=dD (s.getD i 0);refine wr 1 [(3,.o (.bool (bo (s.getD i 0))))] 10 14 [] [(14,(.bool (!(bo (s.getD i 0)))))] (vA (vA (show(0:Int)<=(i:Int) from by omega) (show(i:Int)<(((s:List UInt8).length:Nat):Int) from by omega)) (vA (iQ ex _ H) trivial)) V V fun _=>zi 1 2 (fun E=>?_) fun E=>?_
  ·try simp only[BS]at E
   have c:=E;refine wr 1 [] 2 2 [] [(2,(.bool false))] trivial V V fun _=>ae ⟨.inr V,_,V,_,V,V,(vn1 M c)⟩
  try simp only[BS]at E
  have c:=E;refine wr 1 [] 8 9 [3] [(3,(.int _ _))] (vA (vi) trivial) V V fun _=>?_
  refine Y _ _ _ ?_ ⟨i+1,V,⟨V,V,trivial⟩,V,M,(by rw[gB M,U,c];rfl)⟩;omega
 have ci:=T;have Z:=dD (s.getD 0 0);refine wr 1 [] 15 36 [2] [(2,(.bool (((((s.getD 0 0).toNat:Int) !=48)||((s.length:Int)==1))&&((decide ((s.length:Int)<19))||(((s.length:Int)==19)&&(Op.bytesLess s _||s==zL12))))))] (vA (vA (show(0:Int)<=0 from by omega) (show(0:Int)<(((s:List UInt8).length:Nat):Int) from by omega)) trivial) V V fun _=>ae ⟨.inr V,_,V,_,V,V,(vn2 (all_of_take M U))⟩
theorem validNum_c_q(s:List UInt8)(H:Heap)(O:s.length<4611686018427387904)(E:0<s.length):kKt ex 70 [(tX s)] H fun v H'=>v=(.bool (da s))/\H'=H:=
 cq (validNum_c ex s H O E) (by rintro _ _ ⟨_,rfl,rfl,rfl⟩;exact⟨V,V⟩)
theorem symLen_c(s:List UInt8)(H:Heap)(h0:0<s.length):kKt ex 68 [(tX s)] H fun v H'=> ∃(r:Nat),H'=H/\v=iI (r:Int)/\r=aV s:=by
 refine av Tryz.func68 V V (ai 1 V (wr 3 [] 2 2 [] [(2,(.int _ 0))] trivial V V fun _=>wT 2 [] 6 7 [] [(6,(aG [(tX [62,62,62]),(tX [60,60]),(tX [62,62]),(tX [60,61]),(tX [62,61]),(tX [61,61]),(tX [33,61])])),(7,(iI 0))] V fun _=>aY (ai 1 V ?_)));refine wr 2 [] 8 8 [] [(8,(.bool true))] trivial V V fun _=>bn 4 V V V V (wr 2 [] 9 9 [4] [(4,(tX [62,62,62]))] trivial V V fun _=>wr 1 [] 10 22 [] [(22,(.bool ((decide ((3:Int)<=(s.length:Int)))&&((s.take 3)==([62,62,62]:List UInt8)))))] (vA (fun(E:_)=>(vA (show(0:Int)<=3 from by(try simp only[BS]at E);(first|omega|(show _<23;omega))) (show(3:Int)<=(((s:List UInt8).length:Nat):Int) from by(try simp only[BS]at E);(first|omega|(show _<23;omega))))) trivial) V V fun _=>zi 1 2 (fun c6=>?_) fun c6=>?_)
 ·try simp only[BS]at c6
  have nn:=(c6).2;refine wr 1 [] 23 24 [2] [(2,(.int _ 3))] trivial V V fun _=>ae ⟨.inr V,_,V,3,V,V,(by simp only[aV, *,↓reduceIte,true_or,or_true])⟩
 try simp only[BS]at c6
 first|have nn:=tk3 c6|have nn:=tk2 c6
 refine wr 1 [] 7 7 [25] [(7,(.int _ 1))] (vA (vi) trivial) V V fun _=>aY (ai 1 V (wr 2 [] 8 8 [] [(8,(.bool true))] trivial V V fun _=>bn 4 V V V V (wr 2 [] 9 9 [4] [(4,(tX [60,60]))] trivial V V fun _=>?_)))
 refine wr 1 [] 10 22 [] [(22,(.bool ((decide ((2:Int)<=(s.length:Int)))&&((s.take 2)==([60,60]:List UInt8)))))] (vA (fun(E:_)=>(vA (show(0:Int)<=2 from by(try simp only[BS]at E);(first|omega|(show _<23;omega))) (show(2:Int)<=(((s:List UInt8).length:Nat):Int) from by(try simp only[BS]at E);(first|omega|(show _<23;omega))))) trivial) V V fun _=>zi 1 2 (fun O=>?_) fun O=>?_
 ·try simp only[BS]at O
  have nn:=(O).2;refine wr 1 [] 23 24 [2] [(2,(.int _ 2))] trivial V V fun _=>ae ⟨.inr V,_,V,2,V,V,(by simp only[aV, *,↓reduceIte,true_or,or_true])⟩
 try simp only[BS]at O
 first|have nn:=tk3 O|have nn:=tk2 O
 refine wr 1 [] 7 7 [25] [(7,(.int _ 2))] (vA (vi) trivial) V V fun _=>aY (ai 1 V (wr 2 [] 8 8 [] [(8,(.bool true))] trivial V V fun _=>bn 4 V V V V (wr 2 [] 9 9 [4] [(4,(tX [62,62]))] trivial V V fun _=>?_)))
 refine wr 1 [] 10 22 [] [(22,(.bool ((decide ((2:Int)<=(s.length:Int)))&&((s.take 2)==([62,62]:List UInt8)))))] (vA (fun(E:_)=>(vA (show(0:Int)<=2 from by(try simp only[BS]at E);(first|omega|(show _<23;omega))) (show(2:Int)<=(((s:List UInt8).length:Nat):Int) from by(try simp only[BS]at E);(first|omega|(show _<23;omega))))) trivial) V V fun _=>zi 1 2 (fun T=>?_) fun T=>?_
 ·try simp only[BS]at T
  have nn:=(T).2;refine wr 1 [] 23 24 [2] [(2,(.int _ 2))] trivial V V fun _=>ae ⟨.inr V,_,V,2,V,V,(by simp only[aV, *,↓reduceIte,true_or,or_true])⟩
 try simp only[BS]at T
 first|have nn:=tk3 T|have nn:=tk2 T
 refine wr 1 [] 7 7 [25] [(7,(.int _ 3))] (vA (vi) trivial) V V fun _=>aY (ai 1 V (wr 2 [] 8 8 [] [(8,(.bool true))] trivial V V fun _=>bn 4 V V V V (wr 2 [] 9 9 [4] [(4,(tX [60,61]))] trivial V V fun _=>?_)))
 refine wr 1 [] 10 22 [] [(22,(.bool ((decide ((2:Int)<=(s.length:Int)))&&((s.take 2)==([60,61]:List UInt8)))))] (vA (fun(E:_)=>(vA (show(0:Int)<=2 from by(try simp only[BS]at E);(first|omega|(show _<23;omega))) (show(2:Int)<=(((s:List UInt8).length:Nat):Int) from by(try simp only[BS]at E);(first|omega|(show _<23;omega))))) trivial) V V fun _=>zi 1 2 (fun U=>?_) fun U=>?_
 ·try simp only[BS]at U
  have nn:=(U).2;refine wr 1 [] 23 24 [2] [(2,(.int _ 2))] trivial V V fun _=>ae ⟨.inr V,_,V,2,V,V,(by simp only[aV, *,↓reduceIte,true_or,or_true])⟩
 try simp only[BS]at U
 first|have nn:=tk3 U|have nn:=tk2 U
 refine wr 1 [] 7 7 [25] [(7,(.int _ 4))] (vA (vi) trivial) V V fun _=>aY (ai 1 V (wr 2 [] 8 8 [] [(8,(.bool true))] trivial V V fun _=>bn 4 V V V V (wr 2 [] 9 9 [4] [(4,(tX [62,61]))] trivial V V fun _=>?_)))
 refine wr 1 [] 10 22 [] [(22,(.bool ((decide ((2:Int)<=(s.length:Int)))&&((s.take 2)==([62,61]:List UInt8)))))] (vA (fun(E:_)=>(vA (show(0:Int)<=2 from by(try simp only[BS]at E);(first|omega|(show _<23;omega))) (show(2:Int)<=(((s:List UInt8).length:Nat):Int) from by(try simp only[BS]at E);(first|omega|(show _<23;omega))))) trivial) V V fun _=>zi 1 2 (fun Y=>?_) fun Y=>?_
 ·try simp only[BS]at Y
  have nn:=(Y).2;refine wr 1 [] 23 24 [2] [(2,(.int _ 2))] trivial V V fun _=>ae ⟨.inr V,_,V,2,V,V,(by simp only[aV, *,↓reduceIte,true_or,or_true])⟩
 try simp only[BS]at Y
 first|have nn:=tk3 Y|have nn:=tk2 Y
 refine wr 1 [] 7 7 [25] [(7,(.int _ 5))] (vA (vi) trivial) V V fun _=>aY (ai 1 V (wr 2 [] 8 8 [] [(8,(.bool true))] trivial V V fun _=>bn 4 V V V V (wr 2 [] 9 9 [4] [(4,(tX [61,61]))] trivial V V fun _=>?_)))
 refine wr 1 [] 10 22 [] [(22,(.bool ((decide ((2:Int)<=(s.length:Int)))&&((s.take 2)==([61,61]:List UInt8)))))] (vA (fun(E:_)=>(vA (show(0:Int)<=2 from by(try simp only[BS]at E);(first|omega|(show _<23;omega))) (show(2:Int)<=(((s:List UInt8).length:Nat):Int) from by(try simp only[BS]at E);(first|omega|(show _<23;omega))))) trivial) V V fun _=>zi 1 2 (fun Z=>?_) fun Z=>?_
 ·try simp only[BS]at Z
  have nn:=(Z).2;refine wr 1 [] 23 24 [2] [(2,(.int _ 2))] trivial V V fun _=>ae ⟨.inr V,_,V,2,V,V,(by simp only[aV, *,↓reduceIte,true_or,or_true])⟩
 try simp only[BS]at Z
 first|have nn:=tk3 Z|have nn:=tk2 Z
 refine wr 1 [] 7 7 [25] [(7,(.int _ 6))] (vA (vi) trivial) V V fun _=>aY (ai 1 V (wr 2 [] 8 8 [] [(8,(.bool true))] trivial V V fun _=>bn 4 V V V V (wr 2 [] 9 9 [4] [(4,(tX [33,61]))] trivial V V fun _=>?_)))
 refine wr 1 [] 10 22 [] [(22,(.bool ((decide ((2:Int)<=(s.length:Int)))&&((s.take 2)==([33,61]:List UInt8)))))] (vA (fun(E:_)=>(vA (show(0:Int)<=2 from by(try simp only[BS]at E);(first|omega|(show _<23;omega))) (show(2:Int)<=(((s:List UInt8).length:Nat):Int) from by(try simp only[BS]at E);(first|omega|(show _<23;omega))))) trivial) V V fun _=>zi 1 2 (fun al=>?_) fun al=>?_
 ·try simp only[BS]at al
  have nn:=(al).2;refine wr 1 [] 23 24 [2] [(2,(.int _ 2))] trivial V V fun _=>ae ⟨.inr V,_,V,2,V,V,(by simp only[aV, *,↓reduceIte,true_or,or_true])⟩
 try simp only[BS]at al
 first|have nn:=tk3 al|have nn:=tk2 al
 refine wr 1 [] 7 7 [25] [(7,(.int _ 7))] (vA (vi) trivial) V V fun _=>aY (ai 1 V (wr 2 [] 8 8 [] [(8,(.bool false))] trivial V V fun _=>gK 6 V V V V (wr 2 [] 1 0 [5] [(5,(.int _ 0))] trivial V V fun _=>?_)))
 refine aq (fun(mm:Nat) f H'=> ∃(i:Nat),H'=H/\aJ f [(0,(tX s)),(5,(.int _ (i:Int)))]/\mm=23-i/\(i<=23)/\(∀j,j<i->s.getD 0 0≠eC.getD j 0)) _ ⟨0,V,⟨V,V,trivial⟩,V,M,(by intro j hj;omega)⟩ ?_;rintro a6 a7 H ⟨i,rfl,a0,rfl,h1,h2⟩ a1;refine az _ a0 (fun _=>?_);clear a0;refine ai 2 V (wr 1 [] 26 27 [] [(27,(.bool (decide ((i:Int)<23))))] trivial V V fun _=>zd 4 5 (fun a2=>?_) fun a2=>?_)
 ·have a4:=dD (s.getD 0 0);have a5:=dD (zL11.getD i 0);refine wrD 1 [] 30 34 [] [(34,(.bool (((s.getD 0 0).toNat:Int)==((zL11.getD i 0).toNat:Int))))] (vA (vA (show(0:Int)<=0 from by omega) (show(0:Int)<(((s:List UInt8).length:Nat):Int) from by omega)) (vA (vA (show(0:Int)<=(i:Int) from by omega) (show(i:Int)<((zL11.length:Nat):Int) from by omega)) trivial)) V V V fun _=>zi 1 2 (fun an=>?_) fun an=>?_
  ·try simp only[BS]at an
   have ci:=an;refine wr 1 [] 2 2 [] [(2,(.int _ 1))] trivial V V fun _=>ae ⟨.inr V,_,V,1,V,V,(by have ms:=sing_mem M ci;simp only[aV, *,↓reduceIte,or_self])⟩
  try simp only[BS]at an
  have ci:=an;refine wr 1 [] 28 29 [5] [(5,(.int _ _))] (vA (vi) trivial) V V fun _=>?_
  refine a1 _ _ _ ?_ ⟨i+1,V,⟨V,V,trivial⟩,V,M,(fun j hj=>sing_ne ci h2 hj)⟩;omega
 refine wr 1 [] 2 2 [] [(2,(.int _ 0))] trivial V V fun _=>ae ⟨.inr V,_,V,0,V,V,(by have ms:=sing_no (fun j hj=>h2 j M);simp only[aV, *,↓reduceIte,or_self])⟩
theorem symLen_c_q(s:List UInt8)(H:Heap)(E:0<s.length):kKt ex 68 [(tX s)] H fun v H'=>v=(iI ((aV s:Nat):Int))/\H'=H:=
 cq (symLen_c ex s H E) (by rintro _ _ ⟨_,rfl,rfl,rfl⟩;exact⟨V,V⟩)
def spl:Bool->List UInt8->Nat
 |_,[]=>0
 |false,c::s=>if c=32\/c=9\/c=10\/c=13 then 1+spl false s else if c=35 then 1+spl true s else 0
 |true,c::s=>if c=10 then 1+spl false s else 1+spl true s
theorem j0: ∀(s:List UInt8) (b:Bool),spl b s<=s.length
 | [],b=>by simp[spl]
 |c::s,false=>by
  have E:=j0 s false;have O:=j0 s true
  rw[spl,a02];split
  ·omega
  split<;>omega
 |c::s,true=>by
  have E:=j0 s false;have O:=j0 s true
  rw[spl,a02];split<;>omega
theorem jr{s:List UInt8}{n:Nat}(h:n<s.length):s.drop n=s.getD n 0::s.drop (n+1):=by rw[a0T h,a08,a09 h];rfl
theorem u8i{c:UInt8}{k:Nat}(E:k<256)(h:(c.toNat:Int)=(k:Int)):c=UInt8.ofNat k:=by apply UInt8.toNat_inj.mp;rw[UInt8.toNat_ofNat'];omega
theorem u8e{c:UInt8}(k:Nat)(h:c=UInt8.ofNat k)(E:k<256:=by omega):(c.toNat:Int)=(k:Int):=by rw[h,UInt8.toNat_ofNat'];omega
theorem spE{b:Bool}{s:List UInt8}{n:Nat}(h: ¬n<s.length)(E:n<=s.length)(e:n+spl b (s.drop n)=spl false s):n=spl false s:=by rw[a1a M]at e;simpa[spl] using e
theorem spA{s:List UInt8}{n:Nat}(h:n<s.length)(c:s.getD n 0=32\/s.getD n 0=9\/s.getD n 0=10\/s.getD n 0=13)(e:n+spl false (s.drop n)=spl false s):n+1+spl false (s.drop (n+1))=spl false s:=by rw[jr h,spl,if_pos c]at e;omega
theorem spH{s:List UInt8}{n:Nat}(h:n<s.length)(c:s.getD n 0=35)(e:n+spl false (s.drop n)=spl false s):n+spl true (s.drop n)=spl false s:=by rw[jr h,spl,if_neg (by rw[c];decide),if_pos c]at e;rw[jr h,spl,if_neg (by rw[c];decide)];exact e
theorem spT{s:List UInt8}{n:Nat}(h:n<s.length)(c:s.getD n 0≠10)(e:n+spl true (s.drop n)=spl false s):n+1+spl true (s.drop (n+1))=spl false s:=by rw[jr h,spl,if_neg c]at e;omega
theorem spN{s:List UInt8}{n:Nat}(E:n<=s.length)(c:n<s.length->s.getD n 0=10)(e:n+spl true (s.drop n)=spl false s):n+spl false (s.drop n)=spl false s:=by
 by_cases h:n<s.length
 ·rw[jr h,spl,if_pos (c h)]at e;rw[jr h,spl,if_pos (.inr (.inr (.inl (c h))))];exact e
 rw[a1a M]at e⊢;exact e
theorem spX{s:List UInt8}{n:Nat}(h:n<s.length)(c: ¬(s.getD n 0=32\/s.getD n 0=9\/s.getD n 0=10\/s.getD n 0=13))(c2:s.getD n 0≠35)(e:n+spl false (s.drop n)=spl false s):n=spl false s:=by rw[jr h,spl,if_neg c,if_neg c2]at e;exact e
theorem spaceLen_c(s:List UInt8)(H:Heap)(hl:s.length<4611686018427387904):kKt ex 38 [(tX s)] H fun v H'=> ∃(r:Nat),H'=H/\v=iI (r:Int)/\r=spl false s:=by
 refine av Tryz.func38 V V (ai 1 V (wr 2 [] 2 2 [] [(2,(.int _ 0))] trivial V V fun _=>wr 3 [] 1 0 [3] [(3,(.int _ 0))] trivial V V fun _=>aq (fun(mm:Nat) f H'=> ∃(n:Nat),H'=H/\aJ f [(0,(tX s)),(3,(.int _ (n:Int)))]/\mm=s.length-n/\(n<=s.length)/\(n+spl false (s.drop n)=spl false s)) _ ⟨0,V,⟨V,V,trivial⟩,V,M,(by simp)⟩ ?_));rintro b0 f3 H ⟨n,rfl,a3,rfl,h1,U⟩ T;refine az _ a3 (fun _=>?_);clear a3;refine ai 2 V (wr 1 [] 4 7 [] [(7,(.bool (decide ((n:Int)<(s.length:Int)))))] trivial V V fun _=>zd 3 5 (fun c5=>?_) fun c5=>?_)
 ·have bb:=dD (s.getD n 0);refine wr 4 [] 8 10 [] [(10,(.int .u8 ((s.getD n 0).toNat:Int)))] (vA (vA (show(0:Int)<=(n:Int) from by omega) (show(n:Int)<(((s:List UInt8).length:Nat):Int) from by omega)) trivial) V V fun _=>wr 1 [] 12 13 [] [(12,(.bool (((s.getD n 0).toNat:Int)==32)))] trivial V V fun _=>zi 1 1 (fun Y=>?_) fun Y=>?_
  ·have c9:=Y;try simp only[BS]at c9
   refine bn 0 V Y V V (wr 3 [] 17 18 [3] [(3,(.int _ _))] (vA (vi) trivial) V V fun _=>?_);refine T _ _ _ ?_ ⟨n+1,V,⟨V,V,trivial⟩,V,M,(spA M (.inl (u8i (k:=32) M M)) U)⟩;omega
  have c9:=Y;try simp only[BS]at c9
  refine wr 1 [] 12 14 [] [(12,(.bool (((s.getD n 0).toNat:Int)==9)))] trivial V V fun _=>zi 1 1 (fun E=>?_) fun E=>?_
  ·have Z:=E;try simp only[BS]at Z
   refine bn 0 V E V V (wr 3 [] 17 18 [3] [(3,(.int _ _))] (vA (vi) trivial) V V fun _=>?_);refine T _ _ _ ?_ ⟨n+1,V,⟨V,V,trivial⟩,V,M,(spA M (.inr (.inl (u8i (k:=9) M M))) U)⟩;omega
  have Z:=E;try simp only[BS]at Z
  refine wr 1 [] 12 15 [] [(12,(.bool (((s.getD n 0).toNat:Int)==10)))] trivial V V fun _=>zi 1 0 (fun O=>?_) fun O=>?_
  ·have al:=O;try simp only[BS]at al
   refine bn 0 V O V V (wr 3 [] 17 18 [3] [(3,(.int _ _))] (vA (vi) trivial) V V fun _=>?_);refine T _ _ _ ?_ ⟨n+1,V,⟨V,V,trivial⟩,V,M,(spA M (.inr (.inr (.inl (u8i (k:=10) M M)))) U)⟩;omega
  have al:=O;try simp only[BS]at al
  refine wr 1 [] 12 16 [] [(12,(.bool (((s.getD n 0).toNat:Int)==13)))] trivial V V fun _=>zi 0 1 (fun an=>?_) fun an=>?_
  ·try simp only[BS]at an
   refine wr 3 [] 17 18 [3] [(3,(.int _ _))] (vA (vi) trivial) V V fun _=>?_
   refine T _ _ _ ?_ ⟨n+1,V,⟨V,V,trivial⟩,V,M,(spA M (.inr (.inr (.inr (u8i (k:=13) M M)))) U)⟩;omega
  try simp only[BS]at an
  refine wr 1 [] 19 20 [] [(19,(.bool (((s.getD n 0).toNat:Int)==35)))] trivial V V fun _=>zi 1 1 (fun ax=>?_) fun ax=>?_
  ·try simp only[BS]at ax
   refine aq (fun(mm:Nat) f H'=> ∃(m:Nat),H'=H/\aJ f [(0,(tX s)),(3,(.int _ (m:Int)))]/\mm=s.length-m/\(m<=s.length)/\(m+spl _ (s.drop m)=spl _ s)/\(n<=m)) _ ⟨n,V,⟨V,V,trivial⟩,V,M,(spH M (u8i (k:=35) M M) U),M⟩ ?_;rintro ba bl H ⟨m,rfl,a1,rfl,g1,g2,g3⟩ a5;refine az _ a1 (fun _=>?_);clear a1;refine ai 2 V ?_;have a7:=dD (s.getD m 0);refine wr 1 [] 21 30 [] [(30,(.bool ((decide ((m:Int)<(s.length:Int)))&&(((s.getD m 0).toNat:Int) !=10))))] (vA (fun(g1:_)=>(vA (show(0:Int)<=(m:Int) from by(try simp only[BS]at g1);omega) (show(m:Int)<(((s:List UInt8).length:Nat):Int) from by(try simp only[BS]at g1);omega))) trivial) V V fun _=>zi 2 6 (fun a0=>?_) fun a0=>?_
   ·try simp only[BS]at a0
    refine wr 2 [] 31 32 [3] [(3,(.int _ _))] (vA (vi) trivial) V V fun _=>?_
    refine a5 _ _ _ ?_ ⟨m+1,V,⟨V,V,trivial⟩,V,M,(spT M (fun h=>by have:=u8e 10 h;omega) g2),M⟩;omega
   try simp only[BS]at a0
   have gm:n<m:=by
    rcases a0c n m with h|h
    ·exact h
    exfalso;have e:m=n:=M
    subst e;omega
   refine T _ _ _ ?_ ⟨m,V,⟨V,V,trivial⟩,V,M,(spN g1 (fun h=>(u8i (k:=10) M M)) g2)⟩;omega
  try simp only[BS]at ax
  refine wr 1 [] 2 2 [11] [(2,(.int _ _))] trivial V V fun _=>ae ⟨.inr V,_,V,n,V,V,(by exact spX M (by rintro(h|h|h|h)<;>(first|(have:=u8e 32 h;omega)|(have:=u8e 9 h;omega)|(have:=u8e 10 h;omega)|(have:=u8e 13 h;omega))) (fun h=>by have:=u8e 35 h;omega) U)⟩
 refine wr 1 [] 2 2 [33] [(2,(.int _ _))] trivial V V fun _=>ae ⟨.inr V,_,V,n,V,V,(spE M h1 U)⟩
theorem j1(s:List UInt8)(H:Heap)(E:s.length<4611686018427387904):kKt ex 38 [(tX s)] H fun v H'=>v=(iI ((spl false s:Nat):Int))/\H'=H:=
 cq (spaceLen_c ex s H E) (by rintro _ _ ⟨_,rfl,rfl,rfl⟩;exact⟨V,V⟩)
def aF(s:List UInt8):Int×List UInt8×Int:=
 if aW s=0 then(if aV s=0 then(0,[],2) else(3,s.take (aV s),0))
 else if bo (s.getD 0 0)=true then(if da (s.take (aW s))=true then(2,s.take (aW s),0) else(0,[],2))
 else if 16<aW s then(0,[],6) else(1,s.take (aW s),0)
theorem li{s:List UInt8}(O:0<s.length):aV s<=s.length:=by
 have E: ∀{w:List UInt8} {n:Nat},s.take n=w->w.length=n->n<=s.length:=by intro w n e T;have:=congrArg List.length e;rw[a0d]at this;omega
 rw[aV];split
 ·exact E ‹_› V
 split
 ·rename_i h;rcases h with h|h|h|h|h|h<;>exact E h V
 split<;>omega
theorem first_c(s:List UInt8)(hs:HS (.of H []) F H [] R)(h0:0<s.length)(hl:s.length<4611686018427387904):kKt ex 39 [(tX s)] H fun v H'=> ∃(t:Token) (e:Int) (F':Fz),Fz.le F F'/\HS (.of H []) F' H' [] R/\v= .tuple ⟨[.agg ⟨[iI t.kind,tX t.text.b,iI t.at_]⟩,iI e]⟩/\in64 t.kind/\in64 t.at_/\t=Token.mk (aF s).1 (Str.mk (aF s).2.1) 0/\e=(aF s).2.2:=by
 have hw:=ia s;have hy:=li h0;refine av Tryz.func39 V V (ai 1 V (ab (zn hs V fun b1 H2 E=>za (.int _ 0) (ah 2 V ?_))));refine wr 4 [(1,.o (.int _ _))] 5 6 [4] [(4,(.int _ _))] (vA (wordLen_c_q ex s H2 M) trivial) V V fun _=>wr 1 [] 7 9 [] [(7,(.bool (((aW s:Nat):Int)==0)))] trivial V V fun _=>zi 2 1 (fun c5=>?_) fun c5=>?_
 ·try simp only[BS]at c5
  have z0:aW s=0:=M
  refine wr 2 [(1,.o (.int _ _))] 10 11 [4] [(4,(.int _ _))] (vA (symLen_c_q ex s H2 M) trivial) V V fun _=>wr 1 [] 12 13 [] [(13,(.bool (((aV s:Nat):Int)==0)))] trivial V V fun _=>zi 1 2 (fun c8=>?_) fun c8=>?_
  ·try simp only[BS]at c8
   have z1:aV s=0:=M
   refine sgr 1 3 3 [14] [(3,(.int _ 2))] (Hr_ 1 0 Hn_) E V V fun b9 H9 a0=>ae ⟨.inr V,_,(rC V (bS V V (h_ a0 V) V) (rT V rN)),(⟨0,_,0⟩:Token),2,_,fR,(HS.forget a0),V,M,M,(by simp only[aF, *,↓reduceIte,a0k,not_false_eq_true]),(by simp only[aF, *,↓reduceIte,a0k,not_false_eq_true])⟩
  try simp only[BS]at c8
  have z1: ¬aV s=0:=M
  refine sgr 1 15 18 [3] [(3,(.int _ 0))] (Ha_ (vA (show(0:Int)<=((aV s:Nat):Int) from by omega) (show((aV s:Nat):Int)<=(((s:List UInt8).length:Nat):Int) from by omega)) (Hr_ 4 0 Hn_)) E V V fun a5 b4 U=>ae ⟨.inr V,_,(rC V (bS V V (h_ U V) V) (rT V rN)),(⟨3,⟨s.take (aV s)⟩,0⟩:Token),0,_,fR,(HS.forget U),V,M,M,(by simp only[aF, *,↓reduceIte,a0k,not_false_eq_true]),(by simp only[aF, *,↓reduceIte,a0k,not_false_eq_true])⟩
 try simp only[BS]at c5
 have z0: ¬aW s=0:=M
 have a4:=dD (s.getD 0 0);refine wr 1 [(2,.o (.bool (bo (s.getD 0 0))))] 19 22 [] [(19,(.bool (bo (s.getD 0 0))))] (vA (vA (show(0:Int)<=0 from by omega) (show(0:Int)<(((s:List UInt8).length:Nat):Int) from by omega)) (vA (iQ ex _ H2) trivial)) V V fun _=>zi 2 1 (fun O=>?_) fun O=>?_
 ·try simp only[BS]at O
  have z2:bo (s.getD 0 0)=true:=O;refine wr 1 [(3,.o (.bool (da (s.take (aW s)))))] 23 27 [] [(27,(.bool (!(da (s.take (aW s))))))] (vA (vA (show(0:Int)<=((aW s:Nat):Int) from by omega) (show((aW s:Nat):Int)<=(((s:List UInt8).length:Nat):Int) from by omega)) (vA (validNum_c_q ex _ H2 (by(rw[a0d];omega)) (by(rw[a0d];omega))) trivial)) V V fun _=>zi 1 2 (fun T=>?_) fun T=>?_
  ·try simp only[BS]at T
   have z3:da (s.take (aW s))=false:=by simpa using T
   refine sgr 1 3 3 [28] [(3,(.int _ 2))] (Hr_ 1 0 Hn_) E V V fun a6 b5 Y=>ae ⟨.inr V,_,(rC V (bS V V (h_ Y V) V) (rT V rN)),(⟨0,_,0⟩:Token),2,_,fR,(HS.forget Y),V,M,M,(by simp only[aF, *,↓reduceIte,a0k,not_false_eq_true]),(by simp only[aF, *,↓reduceIte,a0k,not_false_eq_true])⟩
  try simp only[BS]at T
  have z3:da (s.take (aW s))=true:=by simpa using T
  refine sgr 1 29 32 [3] [(3,(.int _ 0))] (Ha_ (vA (show(0:Int)<=((aW s:Nat):Int) from by omega) (show((aW s:Nat):Int)<=(((s:List UInt8).length:Nat):Int) from by omega)) (Hr_ 4 0 Hn_)) E V V fun a7 b6 Z=>ae ⟨.inr V,_,(rC V (bS V V (h_ Z V) V) (rT V rN)),(⟨2,⟨s.take (aW s)⟩,0⟩:Token),0,_,fR,(HS.forget Z),V,M,M,(by simp only[aF, *,↓reduceIte,a0k,not_false_eq_true]),(by simp only[aF, *,↓reduceIte,a0k,not_false_eq_true])⟩
 try simp only[BS]at O
 have z2:bo (s.getD 0 0)=false:=O;refine wr 1 [] 33 35 [] [(33,(.bool (decide ((16:Int)<((aW s:Nat):Int)))))] trivial V V fun _=>zd 1 3 (fun a3=>?_) fun a3=>?_
 ·have z4:16<aW s:=M
  refine sgr 1 3 3 [36] [(3,(.int _ 6))] (Hr_ 1 0 Hn_) E V V fun a8 b7 al=>ae ⟨.inr V,_,(rC V (bS V V (h_ al V) V) (rT V rN)),(⟨0,_,0⟩:Token),6,_,fR,(HS.forget al),V,M,M,(by simp only[aF, *,↓reduceIte,a0k,not_false_eq_true]),(by simp only[aF, *,↓reduceIte,a0k,not_false_eq_true])⟩
 have z4: ¬16<aW s:=M
 refine sgr 1 37 40 [3] [(3,(.int _ 0))] (Ha_ (vA (show(0:Int)<=((aW s:Nat):Int) from by omega) (show((aW s:Nat):Int)<=(((s:List UInt8).length:Nat):Int) from by omega)) (Hr_ 4 0 Hn_)) E V V fun a9 b8 an=>ae ⟨.inr V,_,(rC V (bS V V (h_ an V) V) (rT V rN)),(⟨1,⟨s.take (aW s)⟩,0⟩:Token),0,_,fR,(HS.forget an),V,M,M,(by simp only[aF, *,↓reduceIte,a0k,not_false_eq_true]),(by simp only[aF, *,↓reduceIte,a0k,not_false_eq_true])⟩
theorem take_len{s:List UInt8}{n:Nat}(h:n<=s.length):(s.take n).length=n:=by rw[a0d];omega
theorem mG{s:List UInt8}(E:0<s.length):(aF s).2.1.length<=s.length/\((aF s).2.2=0->0<(aF s).2.1.length)/\0<=(aF s).2.2/\(aF s).2.2<10:=by
 have T:=ia s;have U:=li E;have l1:=take_len T;have O:=take_len U;rw[aF];split
 ·split
  ·simp
  dsimp only;omega
 split
 ·split
  ·dsimp only;omega
  simp
 split
 ·simp
 dsimp only;omega
abbrev Sc:=List Token×Int×Int
def consT(t:Token)(r:Sc):Sc:=if r.2.1=0 then(t::r.1,r.2) else r
def preT(l:List Token)(r:Sc):Sc:=if r.2.1=0 then(l++r.1,r.2) else r
def dX:Nat->List UInt8->Nat->Sc
 |0,_,_=>([],0,0)
 |f+1,s,at_=>
  if at_<s.length then
   if(aF (s.drop at_)).2.2=0 then
    consT ⟨(aF (s.drop at_)).1,⟨(aF (s.drop at_)).2.1⟩,at_⟩ (dX f s (at_+(aF (s.drop at_)).2.1.length+spl false (s.drop (at_+(aF (s.drop at_)).2.1.length))))
   else([],(aF (s.drop at_)).2.2,at_)
  else([],0,0)
def aL(s:List UInt8):Sc:=if 20000<s.length then([],6,20000) else dX (s.length+1) s (spl false s)
theorem pre_cons(l:List Token)(t:Token)(r:Sc):preT l (consT t r)=preT (l++[t]) r:=by
 unfold preT consT;by_cases h:r.2.1=0
 ·simp[h]
 simp[h]
theorem pre_nil(r:Sc):preT [] r=r:=by unfold preT;split<;>rfl
theorem scan_step{s:List UInt8}{at_ f:Nat}{l:List Token}{R:Sc}(h:at_<s.length)(O:s.length-at_<f)(e:(aF (s.drop at_)).2.2=0)(E:preT l (dX f s at_)=R):
  preT (l++[⟨(aF (s.drop at_)).1,⟨(aF (s.drop at_)).2.1⟩,at_⟩]) (dX (f-1) s (at_+(aF (s.drop at_)).2.1.length+spl false (s.drop (at_+(aF (s.drop at_)).2.1.length))))=R:=by
 obtain⟨g,rfl⟩: ∃g,f=g+1:=⟨f-1,by omega⟩
 rw[dX,if_pos h,if_pos e,pre_cons]at E
 exact E
theorem na{s:List UInt8}{at_ f:Nat}{l:List Token}{R:Sc}(h:at_<s.length)(O:s.length-at_<f)(e:(aF (s.drop at_)).2.2≠0)(E:preT l (dX f s at_)=R):R=([],(aF (s.drop at_)).2.2,(at_:Int)):=by
 obtain⟨g,rfl⟩: ∃g,f=g+1:=⟨f-1,by omega⟩
 rw[dX,if_pos h,if_neg e,preT,if_neg (e)]at E;exact E.symm
theorem kO{s:List UInt8}{at_ f:Nat}{l:List Token}{R:Sc}(h: ¬at_<s.length)(E:preT l (dX f s at_)=R):R=(l,0,0):=by
 have:dX f s at_=([],0,0):=by
  cases f with
  |zero=>rfl
  |succ f=>rw[dX,if_neg h]
 rw[this,preT,if_pos V,a0p]at E;exact E.symm
theorem scan_c(s:List UInt8)(hs:HS (.of H []) F H [] R)(hl:s.length<4611686018427387904):kKt ex 14 [(tX s)] H fun v H'=> ∃(al:Option Addr) (kl:Nat) (l:List Token) (p:Fp) (e:ErrT) (F':Fz),Fz.le F F'/\HS (.of H []) F' H' [p] R/\v= .tuple ⟨[sL al l.length kl,.agg ⟨[iI e.why,iI e.at_]⟩]⟩/\OS F' (sL al l.length kl) l p/\in64 e.why/\in64 e.at_/\l=(aL s).1/\e=ErrT.mk (aL s).2.1 (aL s).2.2:=by
 refine av Tryz.func14 V V (ai 1 V (ab (za (sL _ 0 0) (zn hs V fun b1 H2 ba=>ah 3 V ?_))));refine wr 1 [] 8 10 [] [(10,(.bool (decide ((20000:Int)<(s.length:Int)))))] trivial V V fun _=>zd 1 2 (fun c4=>?_) fun c4=>?_
 ·refine sgr 1 2 2 [11] [(2,(sL _ 0 0))] (Hr_ 2 0 Hn_) ba V V fun d2 H5 bb=>ae ⟨.inr V,_,(rT V (rC V (bS V V (h_ bb V) V) rN)),_,0,_,[],(⟨6,20000⟩:ErrT),_,fR,(HS.cons (HS.forget bb)),V,(OS.nil:OS _ _ _ []),M,M,(by rw[aL,if_pos M]),(by rw[aL,if_pos M])⟩
 refine wr 3 [] 1 0 [4] [(4,(sL _ 0 0))] trivial V V fun _=>wr 2 [(1,.o (.int _ _))] 12 13 [5] [(5,(.int _ _))] (vA (j1 ex s H2 M) trivial) V V fun _=>?_
 have b9:=HS.snoc ba;refine aq (fun(mm:Nat) f H'=> ∃(at_:Nat) (l:List Token) (fu:Nat) (E:Option Addr) (O:Nat) (U:Fp) (F':Fz),Fz.le F F'/\HS _ F' H' [[(b1,.cells [_,_] _ _)],U] R/\OS F' (sL E l.length O) l U/\aJ f [(0,(tX s)),(3,(pT b1 0)),(4,(sL E l.length O)),(5,(.int _ (at_:Int)))]/\mm=s.length-at_/\(at_<=s.length)/\(s.length-at_<fu)/\(preT l (dX fu s at_)=aL s)/\(l.length<=at_)) _ ⟨_,_,s.length+1,_,0,[],_,fR,b9,(OS.nil:OS _ _ _ []),⟨V,V,V,V,trivial⟩,V,(j0 s _),M,(by rw[aL,if_neg M];(first|done|exact pre_nil _)),(a0l _)⟩ ?_;rintro em f8 H8 ⟨at_,l,fu,E,O,U,F8,a0,a7,T,a9,rfl,h1,hf,h2,h3⟩ ch;refine az _ a9 (fun _=>?_);clear a9;refine ai 2 V (wr 1 [] 14 17 [] [(17,(.bool (decide ((at_:Int)<(s.length:Int)))))] trivial V V fun _=>zd 4 5 (fun b8=>?_) fun b8=>?_)
 ·have hd:(s.drop at_).length=s.length-at_:=a0a ..;have q:=mG (s:=s.drop at_) M;have sp:=j0 (s.drop (at_+(aF (s.drop at_)).2.1.length)) false;rw[a0a]at sp;refine ab (dA 3 0 25 27 [] [(27,(tX (s.drop at_)))] (Ha_ (vA (show(0:Int)<=(at_:Int) from by omega) (show(at_:Int)<=(((s:List UInt8).length:Nat):Int) from by omega)) Hn_) V V fun _=>zc (first_c ex (s.drop at_) (HS.call a7) M M) ?_);rintro _ c5 ⟨ez,d1,c3,Y,Z,rfl,b4,b5,rfl,rfl⟩;replace Z:=HS.back a7 V Z;replace T:=T.mono Y;refine dA 3 4 29 30 [24] [(29,(aG [_,_,_])),(30,(.int _ _))] Hn_ V V fun _=>zn Z V fun dt c6 b3=>sgo 2 8 1 0 [7] [(7,(.int _ _))] (Hr_ 8 2 Hn_) b3 V V fun co c7 a1=>ah 3 V (wr 1 [] 31 32 [] [(32,(.bool ((aF (s.drop at_)).2.2 !=0)))] trivial V V fun _=>zi 1 2 (fun an=>?_) fun an=>?_)
  ·try simp only[BS]at an
   refine sgr 1 33 35 [2] [(2,(sL _ 0 0))] (Hr_ 4 0 Hn_) a1 V V fun cw c8 a2=>ae ⟨.inr V,_,(rT V (rC V (bS V V (h_ a2 V) V) rN)),_,0,_,[],(⟨(aF (s.drop at_)).2.2,(at_:Int)⟩:ErrT),_,(fT (a0) Y),(HS.cons (HS.forget a2)),V,(OS.nil:OS _ _ _ []),M,M,(by rw[na M hf M h2]),(by rw[na M hf M h2])⟩
  try simp only[BS]at an
  refine sgr 2 36 37 [] [] (Hr_ 2 2 Hn_) a1 V V fun cL c9 a3=>ab (fQ 2 0 38 39 [] [(38,(sL _ _ _)),(39,(aG [_,_,_]))] (Hr_ 1 2 Hn_) a3 V V fun _=>zlo ([(⟨(Token.mk (aF (s.drop at_)).1 _ 0).kind,⟨(Token.mk _ _ 0).text.b⟩,(at_:Int)⟩:Token)]:List Token) a3 V (RL.cs ⟨V,by omega,by(dsimp only;omega)⟩ RL.nl) V fun dn d3 et dd b0 a4=>zao 1 T a4 (OS.sv b0 a4 (i:=3) V) V V V M fun a8 bl ci b6 b2 a5=>za (sL a8 (l++([(⟨(Token.mk _ (Str.mk (aF (s.drop at_)).2.1) 0).kind,⟨(Token.mk (aF (s.drop at_)).1 (Str.mk (aF (s.drop at_)).2.1) 0).text.b⟩,_⟩:Token)]:List Token)).length bl) ?_)
  refine ah 1 V (cP 2 42 46 [5] [(5,(iI ((at_:Int)+(((Token.mk (aF (s.drop at_)).1 (Str.mk (aF (s.drop at_)).2.1) 0).text.b).length:Int))))] (Hr_ 2 2 (Ha_ (vi (n:=(at_:Int)+(((Token.mk (aF (s.drop at_)).1 (Str.mk (aF (s.drop at_)).2.1) 0).text.b).length:Int))) Hn_)) a5 V V fun _=>wR 1 [(4,.o (iI ((spl false (s.drop (at_+(((Token.mk (aF (s.drop at_)).1 (Str.mk (aF (s.drop at_)).2.1) 0).text.b).length))):Nat):Int)))] 18 23 [5] [(5,(iI (((at_:Int)+(((Token.mk (aF (s.drop at_)).1 (Str.mk (aF (s.drop at_)).2.1) 0).text.b).length:Int))+((spl false (s.drop (at_+(((Token.mk (aF (s.drop at_)).1 (Str.mk (aF (s.drop at_)).2.1) 0).text.b).length))):Nat):Int))))] (vA (vA (show(0:Int)<=(at_:Int)+(((Token.mk (aF (s.drop at_)).1 (Str.mk (aF (s.drop at_)).2.1) 0).text.b).length:Int) from by omega) (show(at_:Int)+(((Token.mk (aF (s.drop at_)).1 (Str.mk (aF (s.drop at_)).2.1) 0).text.b).length:Int)<=(((s:List UInt8).length:Nat):Int) from by(dsimp only;omega))) (vA (j1 ex (s.drop (at_+(((Token.mk (aF (s.drop at_)).1 (Str.mk (aF (s.drop at_)).2.1) 0).text.b).length))) b6 (by(rw[a0a];omega))) (vA (vi (n:=((at_:Int)+(((Token.mk (aF (s.drop at_)).1 (Str.mk (aF (s.drop at_)).2.1) 0).text.b).length:Int))+((spl false (s.drop (at_+(((Token.mk (aF (s.drop at_)).1 (Str.mk (aF (s.drop at_)).2.1) 0).text.b).length))):Nat):Int)) M) trivial))) V fun _=>?_);refine ch _ _ _ ?_ ⟨(at_+(((Token.mk (aF (s.drop at_)).1 (Str.mk (aF (s.drop at_)).2.1) 0).text.b).length))+(spl false (s.drop (at_+(((Token.mk (aF (s.drop at_)).1 (Str.mk (aF (s.drop at_)).2.1) 0).text.b).length)))),l++([(⟨(Token.mk (aF (s.drop at_)).1 (Str.mk (aF (s.drop at_)).2.1) 0).kind,⟨(Token.mk (aF (s.drop at_)).1 (Str.mk (aF (s.drop at_)).2.1) 0).text.b⟩,(at_:Int)⟩:Token)]:List Token),fu-1,a8,bl,ci,_,(fT (a0) Y),(HS.sub a5 (a05 _ _)),b2,⟨V,V,V,V,trivial⟩,V,(by dsimp only;omega),(by dsimp only;omega),(scan_step M hf M h2),(by rw[a00,List.length_singleton];dsimp only;omega)⟩;dsimp only;omega
 refine sgr 1 47 48 [2] [(2,(sL E l.length O))] (Hr_ 3 0 Hn_) a7 V V fun c0 dk a6=>ae ⟨.inr V,_,(rT V (rC V (bS V V (h_ a6 V) V) rN)),E,O,l,U,(⟨0,0⟩:ErrT),_,(a0),(HS.only a6 (i:=1) V),V,T,M,M,(by rw[kO M h2]),(by rw[kO M h2])⟩
def gU(n m:Int):Int:=bif decide (Int.tmod n m<0) then Int.tmod n m+m else Int.tmod n m
theorem pick_c(n:Int)(m:Int)(H:Heap)(Y:0<m/\m<9223372036854775808):kKt ex 11 [(iI n),(iI m)] H fun v H'=> ∃(r:Int),H'=H/\v=iI r/\r=gU n m/\(0<=r/\r<m):=by
 have T: -m<n.tmod m:=Int.lt_tmod_of_pos n Y.1;have U:n.tmod m<m:=Int.tmod_lt_of_pos n Y.1;refine av Tryz.func11 V V (ai 1 V (wr 2 [] 4 4 [] [(4,(.int _ 0))] trivial V V fun _=>wr 3 [] 5 7 [0] [(0,(.int _ _))] (vA (show m≠0 from by omega) trivial) V V fun _=>wr 1 [] 8 9 [] [(9,(.bool (decide (Int.tmod n m<0))))] trivial V V fun _=>zi 0 2 (fun E=>?_) fun E=>?_))
 ·have O:=E;try simp only[BS]at O
  refine wr 2 [] 10 12 [0] [(0,(.int _ _))] (vA (vi) trivial) V V fun _=>wr 1 [] 4 4 [13] [(4,(.int _ _))] trivial V V fun _=>ae ⟨.inr V,_,V,_,V,V,(by simp only[gU,E,cond_true,cond_false]),M⟩
 have O:=E;try simp only[BS]at O
 refine wr 1 [] 4 4 [13] [(4,(.int _ _))] trivial V V fun _=>ae ⟨.inr V,_,V,_,V,V,(by simp only[gU,E,cond_true,cond_false]),M⟩
theorem pick_c_q(n:Int)(m:Int)(H:Heap)(E:0<m/\m<9223372036854775808):kKt ex 11 [(iI n),(iI m)] H fun v H'=>v=(iI (gU n m))/\H'=H:=
 cq (pick_c ex n m H E) (by rintro _ _ ⟨_,rfl,rfl,rfl,_⟩;exact⟨V,V⟩)
end Go.Proofs.YtapgbjedgcpffaaGreat.l1
