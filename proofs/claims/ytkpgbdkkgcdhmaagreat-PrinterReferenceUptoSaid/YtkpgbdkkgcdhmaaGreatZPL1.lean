/-
The lexer of the program. No condition but that a text is not longer than a machine dV.
-/
import Derived.Test.YtkpgbdkkgcdhmaaGreatZPRD
import Derived.Test.YtkpgbdkkgcdhmaaGreatChecked
noncomputable section
namespace Go.Proofs.YtkpgbdkkgcdhmaaGreat
abbrev kKt(e:FuncId):=Go.R.C Tryz.prog 0 (Go.R.KX e)
end Go.Proofs.YtkpgbdkkgcdhmaaGreat
namespace Go.Proofs.YtkpgbdkkgcdhmaaGreat.l1
open Go.R
set_option maxRecDepth 10000
set_option linter.unusedVariables false
set_option linter.unusedSimpArgs false
variable (ex:FuncId) {F:Fz} {H:Heap} {R:List Fp}
theorem ql{H:Heap}{b o:Nat}{cs:List Value}{w:Value}(t:TypeId)(i:Nat)(hc:HC H.get b o cs)(A:aggOf Tryz.prog t=some false)(E:cs[i]?=some w):LDv Tryz.prog H t (.pointer (some ⟨b,o+i,none⟩)) w:=ld1 hc A E
theorem qn{H:Heap}{b o:Nat}{cs l:List Value}(t:TypeId)(i n:Nat)(hc:HC H.get b o cs)(A:aggOf Tryz.prog t=some true)(hs:cT Tryz.prog t=some n)(O:Nat.ble (i+n) cs.length=true)(E:dL (dX cs i) n=l):LDv Tryz.prog H t (.pointer (some ⟨b,o+i,none⟩)) (.agg ⟨l⟩):=ldN hc A hs O E
structure Token where
 kind:Int
 text:Str
 at_:Int
 deriving Inhabited
instance :Rp Token where
 sz:=3
 rep F cs x:=cs=[iI x.kind,tX x.text.b,iI x.at_]/\in64 x.kind/\in64 x.at_
 len:=by rintro F cs x ⟨rfl,_⟩;rfl
 one:=by rintro F cs x ⟨rfl,_⟩;rfl
 mono:=by intro F F' cs x _ h;exact h
theorem Token.vw{F:Fz}{get:Nat->Option AObj}{v:Value}{cf:Nat->List Value}{j:Nat}{l:List Token}(h:VW F get v l cf j)(O:j<l.length:=by first|(dsimp only;omega)|omega):HC get (sB v) (sO v+j *Rp.sz Token) [iI (l.getD j default).kind,tX (l.getD j default).text.b,iI (l.getD j default).at_]:=by obtain⟨⟨E,_⟩,A⟩:=h.1 default O;rw[show cf j=_ from E]at A;exact A
theorem Token.fx{F:Fz}{get:Nat->Option AObj}{v:Value}{cf:Nat->List Value}{j:Nat}{l:List Token}(h:VW F get v l cf j):in64 (l.getD j default).kind/\in64 (l.getD j default).at_:=by
 rcases a0s j l.length with hj|hj
 ·obtain⟨⟨O,A,E⟩,_⟩:=h.1 default hj;exact⟨A,E⟩
 rw[dG hj];exact⟨by decide,by decide⟩
structure ErrT where
 why:Int
 at_:Int
 deriving Inhabited
instance :Rp ErrT where
 sz:=2
 rep F cs x:=cs=[iI x.why,iI x.at_]/\in64 x.why/\in64 x.at_
 len:=by rintro F cs x ⟨rfl,_⟩;rfl
 one:=by rintro F cs x ⟨rfl,_⟩;rfl
 mono:=by intro F F' cs x _ h;exact h
def bN(c:UInt8):Bool:=decide (97<=c.toNat)&&decide (c.toNat<=122)||decide (65<=c.toNat)&&decide (c.toNat<=90)||c.toNat==95
def bK(c:UInt8):Bool:=decide (48<=c.toNat)&&decide (c.toNat<=57)
def bT(c:UInt8):Bool:=bN c||bK c
def aN(s:List UInt8):Nat:=(s.takeWhile bT).length
theorem gf{p:UInt8->Bool}: ∀{s:List UInt8} {n:Nat},n<=s.length->(s.take n).all p=true->(n<s.length->p (s.getD n 0)=false)->n=(s.takeWhile p).length
 | [],n,h,_,_=>by simp at h;simp[h]
 |c::s,0,_,_,E=>by have:=E (by simp);simp only[List.getD_cons_zero]at this;rw[a1U,this];rfl
 |c::s,n+1,h,A,E=>by simp only[List.take_succ_cons,a0f,a06]at A;rw[a1U,A.1];have:=gf (p:=p) (s:=s) (n:=n) (by simpa using h) A.2 (fun O=>by have:=E (by simpa using O);simpa using this);simp[←this]
theorem ji(s:List UInt8):aN s<=s.length:=(List.takeWhile_prefix _).length_le
def blankB(c:UInt8):Bool:=c==32||c==9||c==10||c==13
def isDigAll(s:List UInt8):Bool:=s.all bK
def most19:List UInt8:=[57,50,50,51,51,55,50,48,51,54,56,53,52,55,55,53,56,48,56]
def dA(s:List UInt8):Bool:=s.all bK&&((s.getD 0 0 !=48||s.length==1)&&(decide (s.length<19)||s.length==19&&(Op.bytesLess s most19||s==most19)))
theorem vn1{s:List UInt8}{i:Nat}(h:i<s.length)(c:bK (s.getD i 0)=false):false=dA s:=by
 have:s.all bK=false:=by rw[List.all_eq_false];refine⟨s.getD i 0,?_,by simpa using c⟩;rw[a0b,a09 h];exact a1z h
 simp[dA,this]
theorem all_of_take{p:UInt8->Bool}{s:List UInt8}{i:Nat}(h:s.length<=i)(A:(s.take i).all p=true):s.all p=true:=by rwa [a0q h]at A
theorem nat_beq48(c:UInt8):(((c.toNat:Int) !=48))=(c !=48):=by
 by_cases h:c=48
 ·subst h;rfl
 have:c.toNat≠48:=fun e=>h (UInt8.toNat_inj.mp (by rw[e];rfl))
 have A:((c.toNat:Int) !=48)=true:=by simp;omega
 rw[A,eq_comm];simpa using h
theorem int_beq(a:Nat)(b:Nat):((a:Int)==(b:Int))=(a==b):=by rw[a11];simp;omega
theorem vn2{s:List UInt8}(h:s.all bK=true):(((((s.getD 0 0).toNat:Int) !=48)||((s.length:Int)==1))&&((decide ((s.length:Int)<19))||(((s.length:Int)==19)&&(Op.bytesLess s most19||s==most19))))=dA s:=by rw[dA,h,nat_beq48,show((s.length:Int)==1)=(s.length==1) from int_beq _ 1,show((s.length:Int)==19)=(s.length==19) from int_beq _ 19,a1C];rw[show decide ((s.length:Int)<19)=decide (s.length<19) from decide_eq_decide.mpr M]
def eJ:List UInt8:=[43,45,42,47,37,38,124,94,126,33,60,62,61,63,58,59,44,40,41,123,125,91,93]
def ck(s:List UInt8):Nat:=
 if s.take 3=[62,62,62] then 3
 else if s.take 2=[60,60]\/s.take 2=[62,62]\/s.take 2=[60,61]\/s.take 2=[62,61]\/s.take 2=[61,61]\/s.take 2=[33,61] then 2
 else if s.getD 0 0∈eJ then 1 else 0
theorem tk3{s:List UInt8}{a b c:UInt8}(h:(3:Int)<=s.length->s.take 3≠ [a,b,c]): ¬s.take 3=[a,b,c]:=by intro e;refine h ?_ e;have:=congrArg List.length e;rw[a0S]at this;simp only[a01,a03]at this;omega
theorem tk2{s:List UInt8}{a b:UInt8}(h:(2:Int)<=s.length->s.take 2≠ [a,b]): ¬s.take 2=[a,b]:=by intro e;refine h ?_ e;have:=congrArg List.length e;rw[a0S]at this;simp only[a01,a03]at this;omega
theorem sing_mem{c:UInt8}{i:Nat}(h:i<23)(e:((c.toNat:Int))=((eJ.getD i 0).toNat:Int)):c∈eJ:=by have:c=eJ.getD i 0:=UInt8.toNat_inj.mp (by exact_mod_cast e);rw[this,a0b,a09 (show i<eJ.length from h)];exact a1z _
theorem sing_ne{c:UInt8}{i j:Nat}(e:((c.toNat:Int))≠((eJ.getD i 0).toNat:Int))(A: ∀j,j<i->c≠eJ.getD j 0)(h:j<i+1):c≠eJ.getD j 0:=by
 rcases Nat.lt_succ_iff_lt_or_eq.mp h with h|h
 ·exact A j h
 subst h;intro E;exact e (by rw[E])
theorem sing_no{c:UInt8}(A: ∀j,j<23->c≠eJ.getD j 0):c∉eJ:=by intro h;obtain⟨j,E,e⟩:=a1V h;refine A j E ?_;rw[a0b,a09 E];exact e.symm
theorem isLetter_c(c:UInt8)(H:Heap):kKt ex 132 [(.int .u8 (c.toNat:Int))] H fun v H'=> ∃(r:Bool),H'=H/\v= .bool r/\r=bN c:=by refine av Tryz.func132 V V (ai 1 V (wT 2 [] 2 2 [] [(2,(.bool false))] V fun _=>wT 1 [] 2 20 [] [(2,(.bool ((((decide ((97:Int)<=(c.toNat:Int)))&&(decide ((c.toNat:Int)<=122)))||((decide ((65:Int)<=(c.toNat:Int)))&&(decide ((c.toNat:Int)<=90))))||((c.toNat:Int)==95))))] V fun _=>ae ⟨.inr V,_,V,((((decide ((97:Int)<=(c.toNat:Int)))&&(decide ((c.toNat:Int)<=122)))||((decide ((65:Int)<=(c.toNat:Int)))&&(decide ((c.toNat:Int)<=90))))||((c.toNat:Int)==95)),V,V,(by simp[bN];grind)⟩))
theorem isLetter_c_q(c:UInt8)(H:Heap):kKt ex 132 [(.int .u8 (c.toNat:Int))] H fun v H'=>v=(.bool (bN c))/\H'=H:=
 cq (isLetter_c ex c H) (by rintro _ _ ⟨_,rfl,rfl,rfl⟩;exact⟨V,V⟩)
theorem isDigit_c(c:UInt8)(H:Heap):kKt ex 114 [(.int .u8 (c.toNat:Int))] H fun v H'=> ∃(r:Bool),H'=H/\v= .bool r/\r=bK c:=by refine av Tryz.func114 V V (ai 1 V (wT 2 [] 2 2 [] [(2,(.bool false))] V fun _=>wT 1 [] 2 8 [] [(2,(.bool ((decide ((48:Int)<=(c.toNat:Int)))&&(decide ((c.toNat:Int)<=57)))))] V fun _=>ae ⟨.inr V,_,V,((decide ((48:Int)<=(c.toNat:Int)))&&(decide ((c.toNat:Int)<=57))),V,V,(by simp[bK];grind)⟩))
theorem iu(c:UInt8)(H:Heap):kKt ex 114 [(.int .u8 (c.toNat:Int))] H fun v H'=>v=(.bool (bK c))/\H'=H:=
 cq (isDigit_c ex c H) (by rintro _ _ ⟨_,rfl,rfl,rfl⟩;exact⟨V,V⟩)
theorem wordLen_c(s:List UInt8)(H:Heap)(hl:s.length<4611686018427387904):kKt ex 112 [(tX s)] H fun v H'=> ∃(r:Nat),H'=H/\v=iI (r:Int)/\r=aN s:=by
 refine av Tryz.func112 V V (ai 1 V (wT 2 [] 2 2 [] [(2,(iI 0))] V fun _=>wT 3 [] 1 0 [3] [(3,(iI 0))] V fun _=>aj (fun(mm:Nat) f H'=> ∃(n:Nat),H'=H/\aC f [(0,(tX s)),(3,(iI (n:Int)))]/\mm=s.length-n/\(n<=s.length)/\((s.take n).all bT=true)) _ ⟨0,V,⟨V,V,trivial⟩,V,M,k_⟩ ?_));rintro ax f3 H ⟨n,rfl,O,rfl,h1,a_⟩ Z;refine ap _ O (fun _=>?_);clear O;refine ai 2 V ?_;have an:=kF (s.getD n 0);have ar:=kF (s.getD n 0);refine wR 1 [(8,.o (.bool (bN (s.getD n 0)))),(13,.o (.bool (bK (s.getD n 0))))] 4 19 [] [(19,(.bool ((decide ((n:Int)<(s.length:Int)))&&(bN (s.getD n 0)||bK (s.getD n 0)))))] (vA (fun(A:(decide ((n:Int)<(s.length:Int)))=true)=>(vA (show(0:Int)<=(n:Int) from by(try simp only[BS]at A);omega) (show(n:Int)<(((s:List UInt8).length:Nat):Int) from by(try simp only[BS]at A);omega))) (vA (fun(A:(decide ((n:Int)<(s.length:Int)))=true)=>(isLetter_c_q ex (s.getD n 0) H)) (vA (fun(A:(bN (s.getD n 0))=false) (U:(decide ((n:Int)<(s.length:Int)))=true)=>(vA (show(0:Int)<=(n:Int) from by(try simp only[BS]at A U);omega) (show(n:Int)<(((s:List UInt8).length:Nat):Int) from by(try simp only[BS]at A U);omega))) (vA (fun(A:(bN (s.getD n 0))=false) (U:(decide ((n:Int)<(s.length:Int)))=true)=>(iu ex (s.getD n 0) H)) trivial)))) V fun _=>zi 2 5 (fun E=>?_) fun E=>?_
 ·try simp only[BS]at E
  have c:=E;refine wU 2 [] 20 21 [3] [(3,(iI ((n:Int)+1)))] (vi (n:=(n:Int)+1)) V fun _=>?_
  refine Z _ _ _ ?_ ⟨n+1,V,⟨V,V,trivial⟩,V,M,(by rw[all_take M,a_,bT];simpa using c.2)⟩;omega
 try simp only[BS]at E
 have c:=E;refine wT 1 [] 2 2 [22] [(2,(iI (n:Int)))] V fun _=>ae ⟨.inr V,_,V,n,V,V,(gf h1 a_ (fun hn=>by have:=c M;rw[bT,this.1,this.2];rfl))⟩
theorem wordLen_c_q(s:List UInt8)(H:Heap)(A:s.length<4611686018427387904):kKt ex 112 [(tX s)] H fun v H'=>v=(iI ((aN s:Nat):Int))/\H'=H:=
 cq (wordLen_c ex s H A) (by rintro _ _ ⟨_,rfl,rfl,rfl⟩;exact⟨V,V⟩)
theorem validNum_c(s:List UInt8)(H:Heap)(hl:s.length<4611686018427387904)(h0:0<s.length):kKt ex 115 [(tX s)] H fun v H'=> ∃(r:Bool),H'=H/\v= .bool r/\r=dA s:=by
 refine av Tryz.func115 V V (ai 1 V (wT 3 [] 2 2 [] [(2,(.bool false))] V fun _=>wT 2 [] 1 0 [3] [(3,(iI 0))] V fun _=>aj (fun(mm:Nat) f H'=> ∃(i:Nat),H'=H/\aC f [(0,(tX s)),(3,(iI (i:Int)))]/\mm=s.length-i/\(i<=s.length)/\((s.take i).all bK=true)) _ ⟨0,V,⟨V,V,trivial⟩,V,M,k_⟩ ?_));rintro an f3 H ⟨i,rfl,E,rfl,h1,U⟩ a_;refine ap _ E (fun _=>?_);clear E;refine ai 2 V (wT 1 [] 4 7 [] [(7,(.bool (decide ((i:Int)<(s.length:Int)))))] V fun _=>zd 4 5 (fun O=>?_) fun O=>?_)
 ·have ci:=O;have al:=kF (s.getD i 0);refine wR 1 [(3,.o (.bool (bK (s.getD i 0))))] 10 14 [] [(14,(.bool (!(bK (s.getD i 0)))))] (vA (vA (show(0:Int)<=(i:Int) from by omega) (show(i:Int)<(((s:List UInt8).length:Nat):Int) from by omega)) (vA (iu ex (s.getD i 0) H) trivial)) V fun _=>zi 1 2 (fun A=>?_) fun A=>?_
  ·try simp only[BS]at A
   have c:=A;refine wT 1 [] 2 2 [] [(2,(.bool false))] V fun _=>ae ⟨.inr V,_,V,false,V,V,(vn1 M c)⟩
  try simp only[BS]at A
  have c:=A;refine wU 1 [] 8 9 [3] [(3,(iI ((i:Int)+1)))] (vi (n:=(i:Int)+1)) V fun _=>?_
  refine a_ _ _ _ ?_ ⟨i+1,V,⟨V,V,trivial⟩,V,M,(by rw[all_take M,U,c];rfl)⟩;omega
 have ci:=O;have Z:=kF (s.getD 0 0);refine wU 1 [] 15 36 [2] [(2,(.bool (((((s.getD 0 0).toNat:Int) !=48)||((s.length:Int)==1))&&((decide ((s.length:Int)<19))||(((s.length:Int)==19)&&(Op.bytesLess s [57,50,50,51,51,55,50,48,51,54,56,53,52,55,55,53,56,48,56]||s==([57,50,50,51,51,55,50,48,51,54,56,53,52,55,55,53,56,48,56]:List UInt8)))))))] (vA (show(0:Int)<=0 from by omega) (show(0:Int)<(((s:List UInt8).length:Nat):Int) from by omega)) V fun _=>ae ⟨.inr V,_,V,(((((s.getD 0 0).toNat:Int) !=48)||((s.length:Int)==1))&&((decide ((s.length:Int)<19))||(((s.length:Int)==19)&&(Op.bytesLess s [57,50,50,51,51,55,50,48,51,54,56,53,52,55,55,53,56,48,56]||s==([57,50,50,51,51,55,50,48,51,54,56,53,52,55,55,53,56,48,56]:List UInt8))))),V,V,(vn2 (all_of_take M U))⟩
theorem validNum_c_q(s:List UInt8)(H:Heap)(E:s.length<4611686018427387904)(A:0<s.length):kKt ex 115 [(tX s)] H fun v H'=>v=(.bool (dA s))/\H'=H:=
 cq (validNum_c ex s H E A) (by rintro _ _ ⟨_,rfl,rfl,rfl⟩;exact⟨V,V⟩)
theorem symLen_c(s:List UInt8)(H:Heap)(h0:0<s.length):kKt ex 113 [(tX s)] H fun v H'=> ∃(r:Nat),H'=H/\v=iI (r:Int)/\r=ck s:=by
 refine av Tryz.func113 V V (ai 1 V (wT 3 [] 2 2 [] [(2,(iI 0))] V fun _=>wT 2 [] 6 7 [] [(6,(aG [(tX [62,62,62]),(tX [60,60]),(tX [62,62]),(tX [60,61]),(tX [62,61]),(tX [61,61]),(tX [33,61])])),(7,(iI 0))] V fun _=>bY (ai 1 V (wT 2 [] 8 8 [] [(8,(.bool true))] V fun _=>bI 4 (v:=true) V V V V (wT 2 [] 9 9 [4] [(4,(tX [62,62,62]))] V fun _=>wU 1 [] 10 22 [] [(22,(.bool ((decide ((3:Int)<=(s.length:Int)))&&((s.take 3)==([62,62,62]:List UInt8)))))] (fun(A:(decide ((3:Int)<=(s.length:Int)))=true)=>(vA (show(0:Int)<=3 from by(try simp only[BS]at A);(first|omega|(show _<23;omega))) (show(3:Int)<=(((s:List UInt8).length:Nat):Int) from by(try simp only[BS]at A);(first|omega|(show _<23;omega))))) V fun _=>zi 1 2 (fun c6=>?_) fun c6=>?_)))))
 ·try simp only[BS]at c6
  have nn:=(c6).2;refine wT 1 [] 23 24 [2] [(2,(iI 3))] V fun _=>ae ⟨.inr V,_,V,3,V,V,(by simp only[ck, *,↓reduceIte,true_or,or_true])⟩
 try simp only[BS]at c6
 first|have nn:=tk3 c6|have nn:=tk2 c6
 refine wU 1 [] 7 7 [25] [(7,(iI 1))] (vi (n:=(1:Int))) V fun _=>bY (ai 1 V (wT 2 [] 8 8 [] [(8,(.bool true))] V fun _=>bI 4 (v:=true) V V V V (wT 2 [] 9 9 [4] [(4,(tX [60,60]))] V fun _=>wU 1 [] 10 22 [] [(22,(.bool ((decide ((2:Int)<=(s.length:Int)))&&((s.take 2)==([60,60]:List UInt8)))))] (fun(A:(decide ((2:Int)<=(s.length:Int)))=true)=>(vA (show(0:Int)<=2 from by(try simp only[BS]at A);(first|omega|(show _<23;omega))) (show(2:Int)<=(((s:List UInt8).length:Nat):Int) from by(try simp only[BS]at A);(first|omega|(show _<23;omega))))) V fun _=>zi 1 2 (fun E=>?_) fun E=>?_)))
 ·try simp only[BS]at E
  have nn:=(E).2;refine wT 1 [] 23 24 [2] [(2,(iI 2))] V fun _=>ae ⟨.inr V,_,V,2,V,V,(by simp only[ck, *,↓reduceIte,true_or,or_true])⟩
 try simp only[BS]at E
 first|have nn:=tk3 E|have nn:=tk2 E
 refine wU 1 [] 7 7 [25] [(7,(iI 2))] (vi (n:=(2:Int))) V fun _=>bY (ai 1 V (wT 2 [] 8 8 [] [(8,(.bool true))] V fun _=>bI 4 (v:=true) V V V V (wT 2 [] 9 9 [4] [(4,(tX [62,62]))] V fun _=>wU 1 [] 10 22 [] [(22,(.bool ((decide ((2:Int)<=(s.length:Int)))&&((s.take 2)==([62,62]:List UInt8)))))] (fun(A:(decide ((2:Int)<=(s.length:Int)))=true)=>(vA (show(0:Int)<=2 from by(try simp only[BS]at A);(first|omega|(show _<23;omega))) (show(2:Int)<=(((s:List UInt8).length:Nat):Int) from by(try simp only[BS]at A);(first|omega|(show _<23;omega))))) V fun _=>zi 1 2 (fun O=>?_) fun O=>?_)))
 ·try simp only[BS]at O
  have nn:=(O).2;refine wT 1 [] 23 24 [2] [(2,(iI 2))] V fun _=>ae ⟨.inr V,_,V,2,V,V,(by simp only[ck, *,↓reduceIte,true_or,or_true])⟩
 try simp only[BS]at O
 first|have nn:=tk3 O|have nn:=tk2 O
 refine wU 1 [] 7 7 [25] [(7,(iI 3))] (vi (n:=(3:Int))) V fun _=>bY (ai 1 V (wT 2 [] 8 8 [] [(8,(.bool true))] V fun _=>bI 4 (v:=true) V V V V (wT 2 [] 9 9 [4] [(4,(tX [60,61]))] V fun _=>wU 1 [] 10 22 [] [(22,(.bool ((decide ((2:Int)<=(s.length:Int)))&&((s.take 2)==([60,61]:List UInt8)))))] (fun(A:(decide ((2:Int)<=(s.length:Int)))=true)=>(vA (show(0:Int)<=2 from by(try simp only[BS]at A);(first|omega|(show _<23;omega))) (show(2:Int)<=(((s:List UInt8).length:Nat):Int) from by(try simp only[BS]at A);(first|omega|(show _<23;omega))))) V fun _=>zi 1 2 (fun U=>?_) fun U=>?_)))
 ·try simp only[BS]at U
  have nn:=(U).2;refine wT 1 [] 23 24 [2] [(2,(iI 2))] V fun _=>ae ⟨.inr V,_,V,2,V,V,(by simp only[ck, *,↓reduceIte,true_or,or_true])⟩
 try simp only[BS]at U
 first|have nn:=tk3 U|have nn:=tk2 U
 refine wU 1 [] 7 7 [25] [(7,(iI 4))] (vi (n:=(4:Int))) V fun _=>bY (ai 1 V (wT 2 [] 8 8 [] [(8,(.bool true))] V fun _=>bI 4 (v:=true) V V V V (wT 2 [] 9 9 [4] [(4,(tX [62,61]))] V fun _=>wU 1 [] 10 22 [] [(22,(.bool ((decide ((2:Int)<=(s.length:Int)))&&((s.take 2)==([62,61]:List UInt8)))))] (fun(A:(decide ((2:Int)<=(s.length:Int)))=true)=>(vA (show(0:Int)<=2 from by(try simp only[BS]at A);(first|omega|(show _<23;omega))) (show(2:Int)<=(((s:List UInt8).length:Nat):Int) from by(try simp only[BS]at A);(first|omega|(show _<23;omega))))) V fun _=>zi 1 2 (fun a_=>?_) fun a_=>?_)))
 ·try simp only[BS]at a_
  have nn:=(a_).2;refine wT 1 [] 23 24 [2] [(2,(iI 2))] V fun _=>ae ⟨.inr V,_,V,2,V,V,(by simp only[ck, *,↓reduceIte,true_or,or_true])⟩
 try simp only[BS]at a_
 first|have nn:=tk3 a_|have nn:=tk2 a_
 refine wU 1 [] 7 7 [25] [(7,(iI 5))] (vi (n:=(5:Int))) V fun _=>bY (ai 1 V (wT 2 [] 8 8 [] [(8,(.bool true))] V fun _=>bI 4 (v:=true) V V V V (wT 2 [] 9 9 [4] [(4,(tX [61,61]))] V fun _=>wU 1 [] 10 22 [] [(22,(.bool ((decide ((2:Int)<=(s.length:Int)))&&((s.take 2)==([61,61]:List UInt8)))))] (fun(A:(decide ((2:Int)<=(s.length:Int)))=true)=>(vA (show(0:Int)<=2 from by(try simp only[BS]at A);(first|omega|(show _<23;omega))) (show(2:Int)<=(((s:List UInt8).length:Nat):Int) from by(try simp only[BS]at A);(first|omega|(show _<23;omega))))) V fun _=>zi 1 2 (fun Z=>?_) fun Z=>?_)))
 ·try simp only[BS]at Z
  have nn:=(Z).2;refine wT 1 [] 23 24 [2] [(2,(iI 2))] V fun _=>ae ⟨.inr V,_,V,2,V,V,(by simp only[ck, *,↓reduceIte,true_or,or_true])⟩
 try simp only[BS]at Z
 first|have nn:=tk3 Z|have nn:=tk2 Z
 refine wU 1 [] 7 7 [25] [(7,(iI 6))] (vi (n:=(6:Int))) V fun _=>bY (ai 1 V (wT 2 [] 8 8 [] [(8,(.bool true))] V fun _=>bI 4 (v:=true) V V V V (wT 2 [] 9 9 [4] [(4,(tX [33,61]))] V fun _=>wU 1 [] 10 22 [] [(22,(.bool ((decide ((2:Int)<=(s.length:Int)))&&((s.take 2)==([33,61]:List UInt8)))))] (fun(A:(decide ((2:Int)<=(s.length:Int)))=true)=>(vA (show(0:Int)<=2 from by(try simp only[BS]at A);(first|omega|(show _<23;omega))) (show(2:Int)<=(((s:List UInt8).length:Nat):Int) from by(try simp only[BS]at A);(first|omega|(show _<23;omega))))) V fun _=>zi 1 2 (fun al=>?_) fun al=>?_)))
 ·try simp only[BS]at al
  have nn:=(al).2;refine wT 1 [] 23 24 [2] [(2,(iI 2))] V fun _=>ae ⟨.inr V,_,V,2,V,V,(by simp only[ck, *,↓reduceIte,true_or,or_true])⟩
 try simp only[BS]at al
 first|have nn:=tk3 al|have nn:=tk2 al
 refine wU 1 [] 7 7 [25] [(7,(iI 7))] (vi (n:=(7:Int))) V fun _=>bY (ai 1 V (wT 2 [] 8 8 [] [(8,(.bool false))] V fun _=>wk_iff 6 (v:=false) V V V V (wT 2 [] 1 0 [5] [(5,(iI 0))] V fun _=>aj (fun(mm:Nat) f H'=> ∃(i:Nat),H'=H/\aC f [(0,(tX s)),(5,(iI (i:Int)))]/\mm=23-i/\(i<=23)/\(∀j,j<i->s.getD 0 0≠eJ.getD j 0)) _ ⟨0,V,⟨V,V,trivial⟩,V,M,(by intro j hj;omega)⟩ ?_)))
 rintro a4 a5 H ⟨i,rfl,ax,rfl,h1,h2⟩ aA;refine ap _ ax (fun _=>?_);clear ax;refine ai 2 V (wT 1 [] 26 27 [] [(27,(.bool (decide ((i:Int)<23))))] V fun _=>zd 4 5 (fun a0=>?_) fun a0=>?_)
 ·have a2:=kF (s.getD 0 0);have a3:=kF (([43,45,42,47,37,38,124,94,126,33,60,62,61,63,58,59,44,40,41,123,125,91,93]:List UInt8).getD i 0);refine wRD 1 [] 30 34 [] [(34,(.bool (((s.getD 0 0).toNat:Int)==((([43,45,42,47,37,38,124,94,126,33,60,62,61,63,58,59,44,40,41,123,125,91,93]:List UInt8).getD i 0).toNat:Int))))] (vA (vA (show(0:Int)<=0 from by omega) (show(0:Int)<(((s:List UInt8).length:Nat):Int) from by omega)) (vA (vA (show(0:Int)<=(i:Int) from by omega) (show(i:Int)<((([43,45,42,47,37,38,124,94,126,33,60,62,61,63,58,59,44,40,41,123,125,91,93]:List UInt8).length:Nat):Int) from by omega)) trivial)) V V fun _=>zi 1 2 (fun an=>?_) fun an=>?_
  ·try simp only[BS]at an
   have ci:=an;refine wT 1 [] 2 2 [] [(2,(iI 1))] V fun _=>ae ⟨.inr V,_,V,1,V,V,(by have ms:=sing_mem M ci;simp only[ck, *,↓reduceIte,or_self])⟩
  try simp only[BS]at an
  have ci:=an;refine wU 1 [] 28 29 [5] [(5,(iI ((i:Int)+1)))] (vi (n:=(i:Int)+1)) V fun _=>?_
  refine aA _ _ _ ?_ ⟨i+1,V,⟨V,V,trivial⟩,V,M,(fun j hj=>sing_ne ci h2 hj)⟩;omega
 refine wT 1 [] 2 2 [] [(2,(iI 0))] V fun _=>ae ⟨.inr V,_,V,0,V,V,(by have ms:=sing_no (fun j hj=>h2 j M);simp only[ck, *,↓reduceIte,or_self])⟩
theorem symLen_c_q(s:List UInt8)(H:Heap)(A:0<s.length):kKt ex 113 [(tX s)] H fun v H'=>v=(iI ((ck s:Nat):Int))/\H'=H:=
 cq (symLen_c ex s H A) (by rintro _ _ ⟨_,rfl,rfl,rfl⟩;exact⟨V,V⟩)
def spl:Bool->List UInt8->Nat
 |_,[]=>0
 |false,c::s=>if c=32\/c=9\/c=10\/c=13 then 1+spl false s else if c=35 then 1+spl true s else 0
 |true,c::s=>if c=10 then 1+spl false s else 1+spl true s
theorem lY: ∀(s:List UInt8) (b:Bool),spl b s<=s.length
 | [],b=>by simp[spl]
 |c::s,false=>by
  have A:=lY s false;have E:=lY s true
  rw[spl,a01];split
  ·omega
  split<;>omega
 |c::s,true=>by
  have A:=lY s false;have E:=lY s true
  rw[spl,a01];split<;>omega
theorem dropc{s:List UInt8}{n:Nat}(h:n<s.length):s.drop n=s.getD n 0::s.drop (n+1):=by rw[a0V h,a0b,a09 h];rfl
theorem u8i{c:UInt8}{k:Nat}(A:k<256)(h:(c.toNat:Int)=(k:Int)):c=UInt8.ofNat k:=by apply UInt8.toNat_inj.mp;rw[UInt8.toNat_ofNat'];omega
theorem u8e{c:UInt8}(k:Nat)(h:c=UInt8.ofNat k)(A:k<256:=by omega):(c.toNat:Int)=(k:Int):=by rw[h,UInt8.toNat_ofNat'];omega
theorem spE{b:Bool}{s:List UInt8}{n:Nat}(h: ¬n<s.length)(A:n<=s.length)(e:n+spl b (s.drop n)=spl false s):n=spl false s:=by rw[a1M M]at e;simpa[spl] using e
theorem spA{s:List UInt8}{n:Nat}(h:n<s.length)(c:s.getD n 0=32\/s.getD n 0=9\/s.getD n 0=10\/s.getD n 0=13)(e:n+spl false (s.drop n)=spl false s):n+1+spl false (s.drop (n+1))=spl false s:=by rw[dropc h,spl,if_pos c]at e;omega
theorem spH{s:List UInt8}{n:Nat}(h:n<s.length)(c:s.getD n 0=35)(e:n+spl false (s.drop n)=spl false s):n+spl true (s.drop n)=spl false s:=by rw[dropc h,spl,if_neg (by rw[c];decide),if_pos c]at e;rw[dropc h,spl,if_neg (by rw[c];decide)];exact e
theorem spT{s:List UInt8}{n:Nat}(h:n<s.length)(c:s.getD n 0≠10)(e:n+spl true (s.drop n)=spl false s):n+1+spl true (s.drop (n+1))=spl false s:=by rw[dropc h,spl,if_neg c]at e;omega
theorem spN{s:List UInt8}{n:Nat}(A:n<=s.length)(c:n<s.length->s.getD n 0=10)(e:n+spl true (s.drop n)=spl false s):n+spl false (s.drop n)=spl false s:=by
 by_cases h:n<s.length
 ·rw[dropc h,spl,if_pos (c h)]at e;rw[dropc h,spl,if_pos (.inr (.inr (.inl (c h))))];exact e
 rw[a1M M]at e⊢;exact e
theorem spX{s:List UInt8}{n:Nat}(h:n<s.length)(c: ¬(s.getD n 0=32\/s.getD n 0=9\/s.getD n 0=10\/s.getD n 0=13))(c2:s.getD n 0≠35)(e:n+spl false (s.drop n)=spl false s):n=spl false s:=by rw[dropc h,spl,if_neg c,if_neg c2]at e;exact e
theorem spaceLen_c(s:List UInt8)(H:Heap)(hl:s.length<4611686018427387904):kKt ex 76 [(tX s)] H fun v H'=> ∃(r:Nat),H'=H/\v=iI (r:Int)/\r=spl false s:=by
 refine av Tryz.func76 V V (ai 1 V (wT 2 [] 2 2 [] [(2,(iI 0))] V fun _=>wT 3 [] 1 0 [3] [(3,(iI 0))] V fun _=>aj (fun(mm:Nat) f H'=> ∃(n:Nat),H'=H/\aC f [(0,(tX s)),(3,(iI (n:Int)))]/\mm=s.length-n/\(n<=s.length)/\(n+spl false (s.drop n)=spl false s)) _ ⟨0,V,⟨V,V,trivial⟩,V,M,(by simp)⟩ ?_));rintro bb f3 H ⟨n,rfl,a1,rfl,h1,U⟩ O;refine ap _ a1 (fun _=>?_);clear a1;refine ai 2 V (wT 1 [] 4 7 [] [(7,(.bool (decide ((n:Int)<(s.length:Int)))))] V fun _=>zd 3 5 (fun c5=>?_) fun c5=>?_)
 ·have a9:=kF (s.getD n 0);refine wU 4 [] 8 10 [] [(10,(.int .u8 ((s.getD n 0).toNat:Int)))] (vA (show(0:Int)<=(n:Int) from by omega) (show(n:Int)<(((s:List UInt8).length:Nat):Int) from by omega)) V fun _=>wT 1 [] 12 13 [] [(12,(.bool (((s.getD n 0).toNat:Int)==32)))] V fun _=>zi 1 1 (fun a_=>?_) fun a_=>?_
  ·have c9:=a_;try simp only[BS]at c9
   refine bI 0 (v:=(((s.getD n 0).toNat:Int)==32)) V a_ V V (wU 3 [] 17 18 [3] [(3,(iI ((n:Int)+1)))] (vi (n:=(n:Int)+1)) V fun _=>?_);refine O _ _ _ ?_ ⟨n+1,V,⟨V,V,trivial⟩,V,M,(spA M (.inl (u8i (k:=32) M M)) U)⟩;omega
  have c9:=a_;try simp only[BS]at c9
  refine wT 1 [] 12 14 [] [(12,(.bool (((s.getD n 0).toNat:Int)==9)))] V fun _=>zi 1 1 (fun A=>?_) fun A=>?_
  ·have Z:=A;try simp only[BS]at Z
   refine bI 0 (v:=(((s.getD n 0).toNat:Int)==9)) V A V V (wU 3 [] 17 18 [3] [(3,(iI ((n:Int)+1)))] (vi (n:=(n:Int)+1)) V fun _=>?_);refine O _ _ _ ?_ ⟨n+1,V,⟨V,V,trivial⟩,V,M,(spA M (.inr (.inl (u8i (k:=9) M M))) U)⟩;omega
  have Z:=A;try simp only[BS]at Z
  refine wT 1 [] 12 15 [] [(12,(.bool (((s.getD n 0).toNat:Int)==10)))] V fun _=>zi 1 0 (fun E=>?_) fun E=>?_
  ·have al:=E;try simp only[BS]at al
   refine bI 0 (v:=(((s.getD n 0).toNat:Int)==10)) V E V V (wU 3 [] 17 18 [3] [(3,(iI ((n:Int)+1)))] (vi (n:=(n:Int)+1)) V fun _=>?_);refine O _ _ _ ?_ ⟨n+1,V,⟨V,V,trivial⟩,V,M,(spA M (.inr (.inr (.inl (u8i (k:=10) M M)))) U)⟩;omega
  have al:=E;try simp only[BS]at al
  refine wT 1 [] 12 16 [] [(12,(.bool (((s.getD n 0).toNat:Int)==13)))] V fun _=>zi 0 1 (fun an=>?_) fun an=>?_
  ·try simp only[BS]at an
   refine wU 3 [] 17 18 [3] [(3,(iI ((n:Int)+1)))] (vi (n:=(n:Int)+1)) V fun _=>?_
   refine O _ _ _ ?_ ⟨n+1,V,⟨V,V,trivial⟩,V,M,(spA M (.inr (.inr (.inr (u8i (k:=13) M M)))) U)⟩;omega
  try simp only[BS]at an
  refine wT 1 [] 19 20 [] [(19,(.bool (((s.getD n 0).toNat:Int)==35)))] V fun _=>zi 1 1 (fun ar=>?_) fun ar=>?_
  ·try simp only[BS]at ar
   refine aj (fun(mm:Nat) f H'=> ∃(m:Nat),H'=H/\aC f [(0,(tX s)),(3,(iI (m:Int)))]/\mm=s.length-m/\(m<=s.length)/\(m+spl true (s.drop m)=spl false s)/\(n<=m)) _ ⟨n,V,⟨V,V,trivial⟩,V,M,(spH M (u8i (k:=35) M M) U),M⟩ ?_;rintro a8 ba H ⟨m,rfl,aA,rfl,g1,g2,g3⟩ a3;refine ap _ aA (fun _=>?_);clear aA;refine ai 2 V ?_;have a5:=kF (s.getD m 0);refine wU 1 [] 21 30 [] [(30,(.bool ((decide ((m:Int)<(s.length:Int)))&&(((s.getD m 0).toNat:Int) !=10))))] (fun(g1:(decide ((m:Int)<(s.length:Int)))=true)=>(vA (show(0:Int)<=(m:Int) from by(try simp only[BS]at g1);omega) (show(m:Int)<(((s:List UInt8).length:Nat):Int) from by(try simp only[BS]at g1);omega))) V fun _=>zi 2 6 (fun ax=>?_) fun ax=>?_
   ·try simp only[BS]at ax
    refine wU 2 [] 31 32 [3] [(3,(iI ((m:Int)+1)))] (vi (n:=(m:Int)+1)) V fun _=>?_
    refine a3 _ _ _ ?_ ⟨m+1,V,⟨V,V,trivial⟩,V,M,(spT M (fun h=>by have:=u8e 10 h;omega) g2),M⟩;omega
   try simp only[BS]at ax
   have gm:n<m:=by
    rcases a0s n m with h|h
    ·exact h
    exfalso;have e:m=n:=M
    subst e;omega
   refine O _ _ _ ?_ ⟨m,V,⟨V,V,trivial⟩,V,M,(spN g1 (fun h=>(u8i (k:=10) M M)) g2)⟩;omega
  try simp only[BS]at ar
  refine wT 1 [] 2 2 [11] [(2,(iI (n:Int)))] V fun _=>ae ⟨.inr V,_,V,n,V,V,(by exact spX M (by rintro(h|h|h|h)<;>(first|(have:=u8e 32 h;omega)|(have:=u8e 9 h;omega)|(have:=u8e 10 h;omega)|(have:=u8e 13 h;omega))) (fun h=>by have:=u8e 35 h;omega) U)⟩
 refine wT 1 [] 2 2 [33] [(2,(iI (n:Int)))] V fun _=>ae ⟨.inr V,_,V,n,V,V,(spE M h1 U)⟩
theorem jG(s:List UInt8)(H:Heap)(A:s.length<4611686018427387904):kKt ex 76 [(tX s)] H fun v H'=>v=(iI ((spl false s:Nat):Int))/\H'=H:=
 cq (spaceLen_c ex s H A) (by rintro _ _ ⟨_,rfl,rfl,rfl⟩;exact⟨V,V⟩)
def au(s:List UInt8):Int×List UInt8×Int:=
 if aN s=0 then(if ck s=0 then(0,[],2) else(3,s.take (ck s),0))
 else if bK (s.getD 0 0)=true then(if dA (s.take (aN s))=true then(2,s.take (aN s),0) else(0,[],2))
 else if 16<aN s then(0,[],6) else(1,s.take (aN s),0)
theorem symLen_le{s:List UInt8}(E:0<s.length):ck s<=s.length:=by
 have A: ∀{w:List UInt8} {n:Nat},s.take n=w->w.length=n->n<=s.length:=by intro w n e O;have:=congrArg List.length e;rw[a0S]at this;omega
 rw[ck];split
 ·exact A ‹_› V
 split
 ·rename_i h;rcases h with h|h|h|h|h|h<;>exact A h V
 split<;>omega
theorem first_c(s:List UInt8)(hs:HS (.of H []) F H [] R)(h0:0<s.length)(hl:s.length<4611686018427387904):kKt ex 77 [(tX s)] H fun v H'=> ∃(t:Token) (e:Int) (F':Fz),Fz.le F F'/\HS (.of H []) F' H' [] R/\v= .tuple ⟨[.agg ⟨[iI t.kind,tX t.text.b,iI t.at_]⟩,iI e]⟩/\in64 t.kind/\in64 t.at_/\t=Token.mk (au s).1 (Str.mk (au s).2.1) 0/\e=(au s).2.2:=by
 have hw:=ji s;have hy:=symLen_le h0;refine av Tryz.func77 V V (ai 1 V (ab (bc (mb hs V) V V ?_)));rintro _ H2 _ ⟨b1,rfl,(A:HS _ _ _ [(fP b1 [(iI 0),(tX []),(iI 0)])] _),_⟩;refine za (iI 0) (ag 2 V (wU 4 [(1,.o (iI ((aN s:Nat):Int)))] 5 6 [4] [(4,(iI ((aN s:Nat):Int)))] (wordLen_c_q ex s H2 M) V fun _=>wT 1 [] 7 9 [] [(7,(.bool (((aN s:Nat):Int)==0)))] V fun _=>zi 2 1 (fun c5=>?_) fun c5=>?_))
 ·try simp only[BS]at c5
  have z0:aN s=0:=M
  refine wU 2 [(1,.o (iI ((ck s:Nat):Int)))] 10 11 [4] [(4,(iI ((ck s:Nat):Int)))] (symLen_c_q ex s H2 M) V fun _=>wT 1 [] 12 13 [] [(13,(.bool (((ck s:Nat):Int)==0)))] V fun _=>zi 1 2 (fun c8=>?_) fun c8=>?_
  ·try simp only[BS]at c8
   have z1:ck s=0:=M
   refine ab (wTo 1 0 [] 14 14 [] [(14,(aG [(iI 0),(tX []),(iI 0)]))] V fun _=>fj (cn (q:=0) A V V V V V V V V V) V ?_);rintro _ ba _ ⟨(U:HS _ _ _ [_] _),_⟩;refine za (iI 2) (ag 1 V (ae ⟨.inr V,_,(rC V (dy V V (h_ U V) V) (rT V rN)),(⟨0,⟨[]⟩,0⟩:Token),2,_,fR,(HS.forget U),V,M,M,(by simp only[au, *,↓reduceIte,a0h,not_false_eq_true]),(by simp only[au, *,↓reduceIte,a0h,not_false_eq_true])⟩))
  try simp only[BS]at c8
  have z1: ¬ck s=0:=M
  refine ab (wUo 4 0 [] 15 18 [] [(18,(aG [(iI 3),(tX (s.take (ck s))),(iI 0)]))] (vA (show(0:Int)<=((ck s:Nat):Int) from by omega) (show((ck s:Nat):Int)<=(((s:List UInt8).length:Nat):Int) from by omega)) V fun _=>fj (cn (q:=0) A V V V V V V V V V) V ?_);rintro _ bb _ ⟨(a_:HS _ _ _ [(fP b1 [(iI 3),(tX (s.take (ck s))),(iI 0)])] _),_⟩;refine za (iI 0) (ag 1 V (ae ⟨.inr V,_,(rC V (dy V V (h_ a_ V) V) (rT V rN)),(⟨3,⟨s.take (ck s)⟩,0⟩:Token),0,_,fR,(HS.forget a_),V,M,M,(by simp only[au, *,↓reduceIte,a0h,not_false_eq_true]),(by simp only[au, *,↓reduceIte,a0h,not_false_eq_true])⟩))
 try simp only[BS]at c5
 have z0: ¬aN s=0:=M
 have a3:=kF (s.getD 0 0);refine wR 1 [(2,.o (.bool (bK (s.getD 0 0))))] 19 22 [] [(19,(.bool (bK (s.getD 0 0))))] (vA (vA (show(0:Int)<=0 from by omega) (show(0:Int)<(((s:List UInt8).length:Nat):Int) from by omega)) (vA (iu ex (s.getD 0 0) H2) trivial)) V fun _=>zi 2 1 (fun E=>?_) fun E=>?_
 ·try simp only[BS]at E
  have z2:bK (s.getD 0 0)=true:=E;refine wR 1 [(3,.o (.bool (dA (s.take (aN s)))))] 23 27 [] [(27,(.bool (!(dA (s.take (aN s))))))] (vA (vA (show(0:Int)<=((aN s:Nat):Int) from by omega) (show((aN s:Nat):Int)<=(((s:List UInt8).length:Nat):Int) from by omega)) (vA (validNum_c_q ex (s.take (aN s)) H2 (by(rw[a0S];omega)) (by(rw[a0S];omega))) trivial)) V fun _=>zi 1 2 (fun O=>?_) fun O=>?_
  ·try simp only[BS]at O
   have z3:dA (s.take (aN s))=false:=by simpa using O
   refine ab (wTo 1 0 [] 28 28 [] [(28,(aG [(iI 0),(tX []),(iI 0)]))] V fun _=>fj (cn (q:=0) A V V V V V V V V V) V ?_);rintro _ bf _ ⟨(Z:HS _ _ _ [_] _),_⟩;refine za (iI 2) (ag 1 V (ae ⟨.inr V,_,(rC V (dy V V (h_ Z V) V) (rT V rN)),(⟨0,⟨[]⟩,0⟩:Token),2,_,fR,(HS.forget Z),V,M,M,(by simp only[au, *,↓reduceIte,a0h,not_false_eq_true]),(by simp only[au, *,↓reduceIte,a0h,not_false_eq_true])⟩))
  try simp only[BS]at O
  have z3:dA (s.take (aN s))=true:=by simpa using O
  refine ab (wUo 4 0 [] 29 32 [] [(32,(aG [(iI 2),(tX (s.take (aN s))),(iI 0)]))] (vA (show(0:Int)<=((aN s:Nat):Int) from by omega) (show((aN s:Nat):Int)<=(((s:List UInt8).length:Nat):Int) from by omega)) V fun _=>fj (cn (q:=0) A V V V V V V V V V) V ?_);rintro _ bl _ ⟨(al:HS _ _ _ [(fP b1 [(iI 2),(tX (s.take (aN s))),(iI 0)])] _),_⟩;refine za (iI 0) (ag 1 V (ae ⟨.inr V,_,(rC V (dy V V (h_ al V) V) (rT V rN)),(⟨2,⟨s.take (aN s)⟩,0⟩:Token),0,_,fR,(HS.forget al),V,M,M,(by simp only[au, *,↓reduceIte,a0h,not_false_eq_true]),(by simp only[au, *,↓reduceIte,a0h,not_false_eq_true])⟩))
 try simp only[BS]at E
 have z2:bK (s.getD 0 0)=false:=E;refine wT 1 [] 33 35 [] [(33,(.bool (decide ((16:Int)<((aN s:Nat):Int)))))] V fun _=>zd 1 3 (fun a2=>?_) fun a2=>?_
 ·have z4:16<aN s:=M
  refine ab (wTo 1 0 [] 36 36 [] [(36,(aG [(iI 0),(tX []),(iI 0)]))] V fun _=>fj (cn (q:=0) A V V V V V V V V V) V ?_);rintro _ bn _ ⟨(an:HS _ _ _ [_] _),_⟩;refine za (iI 6) (ag 1 V (ae ⟨.inr V,_,(rC V (dy V V (h_ an V) V) (rT V rN)),(⟨0,⟨[]⟩,0⟩:Token),6,_,fR,(HS.forget an),V,M,M,(by simp only[au, *,↓reduceIte,a0h,not_false_eq_true]),(by simp only[au, *,↓reduceIte,a0h,not_false_eq_true])⟩))
 have z4: ¬16<aN s:=M
 refine ab (wUo 4 0 [] 37 40 [] [(40,(aG [(iI 1),(tX (s.take (aN s))),(iI 0)]))] (vA (show(0:Int)<=((aN s:Nat):Int) from by omega) (show((aN s:Nat):Int)<=(((s:List UInt8).length:Nat):Int) from by omega)) V fun _=>fj (cn (q:=0) A V V V V V V V V V) V ?_);rintro _ bt _ ⟨(ar:HS _ _ _ [(fP b1 [(iI 1),(tX (s.take (aN s))),(iI 0)])] _),_⟩;refine za (iI 0) (ag 1 V (ae ⟨.inr V,_,(rC V (dy V V (h_ ar V) V) (rT V rN)),(⟨1,⟨s.take (aN s)⟩,0⟩:Token),0,_,fR,(HS.forget ar),V,M,M,(by simp only[au, *,↓reduceIte,a0h,not_false_eq_true]),(by simp only[au, *,↓reduceIte,a0h,not_false_eq_true])⟩))
theorem take_len{s:List UInt8}{n:Nat}(h:n<=s.length):(s.take n).length=n:=by rw[a0S];omega
theorem firstK_len{s:List UInt8}(A:0<s.length):(au s).2.1.length<=s.length/\((au s).2.2=0->0<(au s).2.1.length)/\0<=(au s).2.2/\(au s).2.2<10:=by
 have E:=ji s;have O:=symLen_le A;have l1:=take_len E;have l2:=take_len O;rw[au];split
 ·split
  ·simp
  dsimp only;omega
 split
 ·split
  ·dsimp only;omega
  simp
 split
 ·simp
 dsimp only;omega
abbrev Sc:=List Token×Int×Int
def consT(t:Token)(r:Sc):Sc:=if r.2.1=0 then(t::r.1,r.2) else r
def preT(l:List Token)(r:Sc):Sc:=if r.2.1=0 then(l++r.1,r.2) else r
def gi:Nat->List UInt8->Nat->Sc
 |0,_,_=>([],0,0)
 |f+1,s,at_=>
  if at_<s.length then
   if(au (s.drop at_)).2.2=0 then
    consT ⟨(au (s.drop at_)).1,⟨(au (s.drop at_)).2.1⟩,at_⟩ (gi f s (at_+(au (s.drop at_)).2.1.length+spl false (s.drop (at_+(au (s.drop at_)).2.1.length))))
   else([],(au (s.drop at_)).2.2,at_)
  else([],0,0)
def cm(s:List UInt8):Sc:=if 20000<s.length then([],6,20000) else gi (s.length+1) s (spl false s)
theorem pre_cons(l:List Token)(t:Token)(r:Sc):preT l (consT t r)=preT (l++[t]) r:=by
 unfold preT consT;by_cases h:r.2.1=0
 ·simp[h]
 simp[h]
theorem pre_nil(r:Sc):preT [] r=r:=by unfold preT;split<;>rfl
theorem scan_step{s:List UInt8}{E f:Nat}{l:List Token}{R:Sc}(h:E<s.length)(O:s.length-E<f)(e:(au (s.drop E)).2.2=0)(A:preT l (gi f s E)=R):
  preT (l++[⟨(au (s.drop E)).1,⟨(au (s.drop E)).2.1⟩,E⟩]) (gi (f-1) s (E+(au (s.drop E)).2.1.length+spl false (s.drop (E+(au (s.drop E)).2.1.length))))=R:=by
 obtain⟨g,rfl⟩: ∃g,f=g+1:=⟨f-1,by omega⟩
 rw[gi,if_pos h,if_pos e,pre_cons]at A
 exact A
theorem scan_err{s:List UInt8}{E f:Nat}{l:List Token}{R:Sc}(h:E<s.length)(O:s.length-E<f)(e:(au (s.drop E)).2.2≠0)(A:preT l (gi f s E)=R):R=([],(au (s.drop E)).2.2,(E:Int)):=by
 obtain⟨g,rfl⟩: ∃g,f=g+1:=⟨f-1,by omega⟩
 rw[gi,if_pos h,if_neg e,preT,if_neg (e)]at A;exact A.symm
theorem scan_end{s:List UInt8}{E f:Nat}{l:List Token}{R:Sc}(h: ¬E<s.length)(A:preT l (gi f s E)=R):R=(l,0,0):=by
 have:gi f s E=([],0,0):=by
  cases f with
  |zero=>rfl
  |succ f=>rw[gi,if_neg h]
 rw[this,preT,if_pos V,a0l]at A;exact A.symm
theorem scan_c(s:List UInt8)(hs:HS (.of H []) F H [] R)(hl:s.length<4611686018427387904):kKt ex 37 [(tX s)] H fun v H'=> ∃(al:Option Addr) (kl:Nat) (l:List Token) (p:Fp) (e:ErrT) (F':Fz),Fz.le F F'/\HS (.of H []) F' H' [p] R/\v= .tuple ⟨[sL al l.length kl,.agg ⟨[iI e.why,iI e.at_]⟩]⟩/\OS F' (sL al l.length kl) l p/\in64 e.why/\in64 e.at_/\l=(cm s).1/\e=ErrT.mk (cm s).2.1 (cm s).2.2:=by
 refine av Tryz.func37 V V (ai 1 V (ab (za (sL none 0 0) (bc (mb hs V) V V ?_))));rintro _ H2 _ ⟨b1,rfl,(bf:HS _ _ _ [(fP b1 [(iI 0),(iI 0)])] _),_⟩;refine ag 3 V (wT 1 [] 8 10 [] [(10,(.bool (decide ((20000:Int)<(s.length:Int)))))] V fun _=>zd 1 2 (fun c4=>?_) fun c4=>?_)
 ·refine ab (wTo 2 0 [] 2 2 [11] [(2,(sL none 0 0)),(11,(aG [(iI 6),(iI 20000)]))] V fun _=>fj (cn (q:=0) bf V V V V V V V V V) V ?_);rintro _ H6 _ ⟨(bl:HS _ _ _ [(fP b1 [(iI 6),(iI 20000)])] _),_⟩;refine ag 1 V (ae ⟨.inr V,_,(rT V (rC V (dy V V (h_ bl V) V) rN)),none,0,([]:List Token),[],(⟨6,20000⟩:ErrT),_,fR,(HS.cons (HS.forget bl)),V,(OS.nil:OS _ _ _ []),M,M,(by rw[cm,if_pos M]),(by rw[cm,if_pos M])⟩)
 refine wT 3 [] 1 0 [4] [(4,(sL none 0 0))] V fun _=>wU 2 [(1,.o (iI ((spl false s:Nat):Int)))] 12 13 [5] [(5,(iI ((spl false s:Nat):Int)))] (jG ex s H2 M) V fun _=>?_
 have Z:=HS.snoc bf;have Z:HS _ _ _ [_,[]] _:=Z;refine aj (fun(mm:Nat) f H'=> ∃(ax:Nat) (l:List Token) (fu:Nat) (A:Option Addr) (E:Nat) (O:Fp) (F':Fz),Fz.le F F'/\HS (Base.of H []) F' H' [(fP b1 [(iI 0),(iI 0)]),O] R/\OS F' (sL A l.length E) l O/\aC f [(0,(tX s)),(3,(pT b1 0)),(4,(sL A l.length E)),(5,(iI (ax:Int)))]/\mm=s.length-ax/\(ax<=s.length)/\(s.length-ax<fu)/\(preT l (gi fu s ax)=cm s)/\(l.length<=ax)) _ ⟨spl false s,([]:List Token),s.length+1,none,0,[],_,fR,Z,(OS.nil:OS _ (sL none 0 0) ([]:List Token) []),⟨V,V,V,V,trivial⟩,V,(lY s false),M,(by rw[cm,if_neg M];(first|done|exact pre_nil _)),(a0r _)⟩ ?_;rintro dt f9 H9 ⟨ax,l,fu,A,E,O,F9,a1,a8,U,bb,rfl,h1,hf,h2,h3⟩ b8;refine ap _ bb (fun _=>?_);clear bb;refine ai 2 V (wT 1 [] 14 17 [] [(17,(.bool (decide ((ax:Int)<(s.length:Int)))))] V fun _=>zd 4 5 (fun b6=>?_) fun b6=>?_)
 ·have hd:(s.drop ax).length=s.length-ax:=a1y ..;have q:=firstK_len (s:=s.drop ax) M;have sp:=lY (s.drop (ax+(au (s.drop ax)).2.1.length)) false;rw[a1y]at sp;refine ab (wUo 3 0 [] 25 27 [] [(27,(tX (s.drop ax)))] (vA (show(0:Int)<=(ax:Int) from by omega) (show(ax:Int)<=(((s:List UInt8).length:Nat):Int) from by omega)) V fun _=>zc (first_c ex (s.drop ax) (HS.call a8) M M) ?_);rintro _ c0 ⟨d1,dn,co,a_,an,rfl,b2,b3,rfl,rfl⟩;replace an:HS _ _ _ [_,O] _:=HS.back a8 V an;replace U:=U.mono a_;refine wTo 3 4 [] 29 30 [24] [(29,(aG [(iI ((Token.mk (au (s.drop ax)).1 (Str.mk (au (s.drop ax)).2.1) 0).kind)),(tX (Token.mk (au (s.drop ax)).1 (Str.mk (au (s.drop ax)).2.1) 0).text.b),(iI ((Token.mk (au (s.drop ax)).1 (Str.mk (au (s.drop ax)).2.1) 0).at_))])),(30,(iI ((au (s.drop ax)).2.2)))] V fun _=>bc (mb an V) V V ?_
  rintro _ c3 _ ⟨ar,rfl,(b0:HS _ _ _ [_,_,(fP ar [(iI 0),(tX []),(iI 0)])] _),_⟩;refine fj (cn (q:=2) b0 V V V V V V V V V) V ?_;rintro _ c5 _ ⟨(a2:HS _ _ _ [_,_,(fP ar [(iI ((Token.mk (au (s.drop ax)).1 (Str.mk (au (s.drop ax)).2.1) 0).kind)),(tX (Token.mk (au (s.drop ax)).1 (Str.mk (au (s.drop ax)).2.1) 0).text.b),(iI ((Token.mk (au (s.drop ax)).1 (Str.mk (au (s.drop ax)).2.1) 0).at_))])] _),_⟩;refine za (iI ((au (s.drop ax)).2.2)) (ag 3 V (wT 1 [] 31 32 [] [(32,(.bool ((au (s.drop ax)).2.2 !=0)))] V fun _=>zi 1 2 (fun aA=>?_) fun aA=>?_))
  ·try simp only[BS]at aA
   refine ab (wTo 4 0 [] 33 35 [2] [(2,(sL none 0 0)),(35,(aG [(iI ((au (s.drop ax)).2.2)),(iI (ax:Int))]))] V fun _=>fj (cn (q:=0) a2 V V V V V V V V V) V ?_);rintro _ c6 _ ⟨(a3:HS _ _ _ [(fP b1 [(iI ((au (s.drop ax)).2.2)),(iI (ax:Int))]),_,_] _),_⟩;refine ag 1 V (ae ⟨.inr V,_,(rT V (rC V (dy V V (h_ a3 V) V) rN)),none,0,([]:List Token),[],(⟨(au (s.drop ax)).2.2,(ax:Int)⟩:ErrT),_,(fT (a1) a_),(HS.cons (HS.forget a3)),V,(OS.nil:OS _ _ _ []),M,M,(by rw[scan_err M hf M h2]),(by rw[scan_err M hf M h2])⟩)
  try simp only[BS]at aA
  refine ab (wTo 2 0 [] 36 37 [] [(36,(iI (ax:Int))),(37,(pT ar 2))] V fun _=>fj (cn (q:=2) a2 V V V V V V V V V) V ?_);rintro _ c7 _ ⟨(a4:HS _ _ _ [_,_,(fP ar [(iI ((Token.mk (au (s.drop ax)).1 (Str.mk (au (s.drop ax)).2.1) 0).kind)),(tX (Token.mk (au (s.drop ax)).1 (Str.mk (au (s.drop ax)).2.1) 0).text.b),(iI (ax:Int))])] _),_⟩;let a9:Value:=(aG [(iI ((Token.mk (au (s.drop ax)).1 (Str.mk (au (s.drop ax)).2.1) 0).kind)),(tX (Token.mk (au (s.drop ax)).1 (Str.mk (au (s.drop ax)).2.1) 0).text.b),(iI (ax:Int))])
  refine ag 2 V (ab (wUo 2 0 [(1,.o a9)] 38 39 [] [(38,(sL A l.length E)),(39,a9)] (qn 112 0 3 (HS.hc a4 (i:=2) V) V V V V) V fun _=>bc (fU (α:=Token) (ps:=[(0,a9)]) (cells:=[(iI ((Token.mk (au (s.drop ax)).1 (Str.mk (au (s.drop ax)).2.1) 0).kind)),(tX (Token.mk (au (s.drop ax)).1 (Str.mk (au (s.drop ax)).2.1) 0).text.b),(iI (ax:Int))]) ([(⟨(Token.mk (au (s.drop ax)).1 (Str.mk (au (s.drop ax)).2.1) 0).kind,⟨(Token.mk (au (s.drop ax)).1 (Str.mk (au (s.drop ax)).2.1) 0).text.b⟩,(ax:Int)⟩:Token)]:List Token) a4 V V V (by kernel_rfl) ⟨[(iI ((Token.mk (au (s.drop ax)).1 (Str.mk (au (s.drop ax)).2.1) 0).kind)),(tX (Token.mk (au (s.drop ax)).1 (Str.mk (au (s.drop ax)).2.1) 0).text.b),(iI (ax:Int))],[],V,⟨V,by omega,by(dsimp only;omega)⟩,V⟩ V) V V ?_));rintro _ c8 b9 ⟨dk,ds,rfl,bw,(a5:HS _ _ _ [_,_,_,b9] _),_⟩;refine bc (rs_app (α:=Token) (q:=1) U a5 V V V (OS.sv bw a5 (i:=3) V) V V V V V V V M) V V ?_;rintro _ b4 bt ⟨ba,bn,rfl,bF,(a6:HS _ _ _ [_,bt,_,_] _),_⟩;refine za (sL ba (l++([(⟨(Token.mk (au (s.drop ax)).1 (Str.mk (au (s.drop ax)).2.1) 0).kind,⟨(Token.mk (au (s.drop ax)).1 (Str.mk (au (s.drop ax)).2.1) 0).text.b⟩,(ax:Int)⟩:Token)]:List Token)).length bn) (ag 1 V (wR 2 [(2,.o (tX (Token.mk (au (s.drop ax)).1 (Str.mk (au (s.drop ax)).2.1) 0).text.b))] 42 46 [5] [(5,(iI ((ax:Int)+(((Token.mk (au (s.drop ax)).1 (Str.mk (au (s.drop ax)).2.1) 0).text.b).length:Int))))] (vA (ql 9 1 (HS.hc a6 (i:=2) V) V V) (vA (vi (n:=(ax:Int)+(((Token.mk (au (s.drop ax)).1 (Str.mk (au (s.drop ax)).2.1) 0).text.b).length:Int))) trivial)) V fun _=>wR 1 [(4,.o (iI ((spl false (s.drop (ax+(((Token.mk (au (s.drop ax)).1 (Str.mk (au (s.drop ax)).2.1) 0).text.b).length))):Nat):Int)))] 18 23 [5] [(5,(iI (((ax:Int)+(((Token.mk (au (s.drop ax)).1 (Str.mk (au (s.drop ax)).2.1) 0).text.b).length:Int))+((spl false (s.drop (ax+(((Token.mk (au (s.drop ax)).1 (Str.mk (au (s.drop ax)).2.1) 0).text.b).length))):Nat):Int))))] (vA (vA (show(0:Int)<=(ax:Int)+(((Token.mk (au (s.drop ax)).1 (Str.mk (au (s.drop ax)).2.1) 0).text.b).length:Int) from by omega) (show(ax:Int)+(((Token.mk (au (s.drop ax)).1 (Str.mk (au (s.drop ax)).2.1) 0).text.b).length:Int)<=(((s:List UInt8).length:Nat):Int) from by(dsimp only;omega))) (vA (jG ex (s.drop (ax+(((Token.mk (au (s.drop ax)).1 (Str.mk (au (s.drop ax)).2.1) 0).text.b).length))) b4 (by(rw[a1y];omega))) (vA (vi (n:=((ax:Int)+(((Token.mk (au (s.drop ax)).1 (Str.mk (au (s.drop ax)).2.1) 0).text.b).length:Int))+((spl false (s.drop (ax+(((Token.mk (au (s.drop ax)).1 (Str.mk (au (s.drop ax)).2.1) 0).text.b).length))):Nat):Int)) M) trivial))) V fun _=>?_));refine b8 _ _ _ ?_ ⟨(ax+(((Token.mk (au (s.drop ax)).1 (Str.mk (au (s.drop ax)).2.1) 0).text.b).length))+(spl false (s.drop (ax+(((Token.mk (au (s.drop ax)).1 (Str.mk (au (s.drop ax)).2.1) 0).text.b).length)))),l++([(⟨(Token.mk (au (s.drop ax)).1 (Str.mk (au (s.drop ax)).2.1) 0).kind,⟨(Token.mk (au (s.drop ax)).1 (Str.mk (au (s.drop ax)).2.1) 0).text.b⟩,(ax:Int)⟩:Token)]:List Token),fu-1,ba,bn,bt,_,(fT (a1) a_),(HS.sub a6 (a05 _ _)),bF,⟨V,V,V,V,trivial⟩,V,(by dsimp only;omega),(by dsimp only;omega),(scan_step M hf M h2),(by rw[a00,a1r];dsimp only;omega)⟩;dsimp only;omega
 refine ab (wTo 3 0 [] 47 48 [2] [(2,(sL A l.length E)),(48,(aG [(iI 0),(iI 0)]))] V fun _=>fj (cn (q:=0) a8 V V V V V V V V V) V ?_);rintro _ c9 _ ⟨(a7:HS _ _ _ [_,O] _),_⟩;refine ag 1 V (ae ⟨.inr V,_,(rT V (rC V (dy V V (h_ a7 V) V) rN)),A,E,l,O,(⟨0,0⟩:ErrT),_,(a1),(HS.only a7 (i:=1) V),V,U,M,M,(by rw[scan_end M h2]),(by rw[scan_end M h2])⟩)
def kT(n m:Int):Int:=bif decide (Int.tmod n m<0) then Int.tmod n m+m else Int.tmod n m
theorem pick_c(n:Int)(m:Int)(H:Heap)(Z:0<m/\m<9223372036854775808):kKt ex 17 [(iI n),(iI m)] H fun v H'=> ∃(r:Int),H'=H/\v=iI r/\r=kT n m/\(0<=r/\r<m):=by
 have O: -m<n.tmod m:=Int.lt_tmod_of_pos n Z.1;have U:n.tmod m<m:=Int.tmod_lt_of_pos n Z.1;refine av Tryz.func17 V V (ai 1 V (wT 2 [] 4 4 [] [(4,(iI 0))] V fun _=>wU 3 [] 5 7 [0] [(0,(iI (Int.tmod n m)))] (show m≠0 from by omega) V fun _=>wT 1 [] 8 9 [] [(9,(.bool (decide (Int.tmod n m<0))))] V fun _=>zi 0 2 (fun A=>?_) fun A=>?_))
 ·have E:=A;try simp only[BS]at E
  refine wU 2 [] 10 12 [0] [(0,(iI ((Int.tmod n m)+m)))] (vi (n:=(Int.tmod n m)+m)) V fun _=>wT 1 [] 4 4 [13] [(4,(iI ((Int.tmod n m)+m)))] V fun _=>ae ⟨.inr V,_,V,(Int.tmod n m)+m,V,V,(by simp only[kT,A,cond_true,cond_false]),M⟩
 have E:=A;try simp only[BS]at E
 refine wT 1 [] 4 4 [13] [(4,(iI (Int.tmod n m)))] V fun _=>ae ⟨.inr V,_,V,Int.tmod n m,V,V,(by simp only[kT,A,cond_true,cond_false]),M⟩
theorem pick_c_q(n:Int)(m:Int)(H:Heap)(A:0<m/\m<9223372036854775808):kKt ex 17 [(iI n),(iI m)] H fun v H'=>v=(iI (kT n m))/\H'=H:=
 cq (pick_c ex n m H A) (by rintro _ _ ⟨_,rfl,rfl,rfl,_⟩;exact⟨V,V⟩)
end Go.Proofs.YtkpgbdkkgcdhmaaGreat.l1
