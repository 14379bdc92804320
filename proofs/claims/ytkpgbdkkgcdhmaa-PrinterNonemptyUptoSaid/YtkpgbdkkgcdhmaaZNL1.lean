/-
The lexer of the program. No condition but that a text is not longer than a machine dQ.
-/
import Derived.Test.YtkpgbdkkgcdhmaaZNRD
import Derived.Test.YtkpgbdkkgcdhmaaChecked
noncomputable section
namespace Go.Proofs.Ytkpgbdkkgcdhmaa
abbrev kKt(e:FuncId):=Go.R.C Try.prog 0 (Go.R.KX e)
end Go.Proofs.Ytkpgbdkkgcdhmaa
namespace Go.Proofs.Ytkpgbdkkgcdhmaa.l1
open Go.R
set_option maxRecDepth 10000
set_option linter.unusedVariables false
set_option linter.unusedSimpArgs false
variable (ex:FuncId) {F:Fz} {H:Heap} {R:List Fp}
theorem ql{H:Heap}{b o:Nat}{cs:List Value}{w:Value}(t:TypeId)(i:Nat)(hc:HC H.get b o cs)(A:aggOf Try.prog t=some false)(E:cs[i]?=some w):LDv Try.prog H t (.pointer (some ⟨b,o+i,none⟩)) w:=ld1 hc A E
theorem qn{H:Heap}{b o:Nat}{cs l:List Value}(t:TypeId)(i n:Nat)(hc:HC H.get b o cs)(A:aggOf Try.prog t=some true)(hs:cQ Try.prog t=some n)(O:Nat.ble (i+n) cs.length=true)(E:dH (dT cs i) n=l):LDv Try.prog H t (.pointer (some ⟨b,o+i,none⟩)) (.agg ⟨l⟩):=ldN hc A hs O E
structure Token where
 kind:Int
 text:Str
 at_:Int
 deriving Inhabited
instance :Rp Token where
 sz:=3
 rep F cs x:=cs=[iI x.kind,tX x.text.b,iI x.at_]/\in64 x.kind/\in64 x.at_
 len:=by rintro F cs x ⟨rfl,_⟩;rfl
 one:=by rintro F cs x ⟨rfl,_⟩;rfl
 mono:=by intro F F' cs x _ h;exact h
theorem Token.vw{F:Fz}{get:Nat->Option AObj}{v:Value}{cf:Nat->List Value}{j:Nat}{l:List Token}(h:VW F get v l cf j)(O:j<l.length:=by first|(dsimp only;omega)|omega):HC get (sB v) (sO v+j *Rp.sz Token) [iI (l.getD j default).kind,tX (l.getD j default).text.b,iI (l.getD j default).at_]:=by obtain⟨⟨E,_⟩,A⟩:=h.1 default O;rw[show cf j=_ from E]at A;exact A
theorem Token.fx{F:Fz}{get:Nat->Option AObj}{v:Value}{cf:Nat->List Value}{j:Nat}{l:List Token}(h:VW F get v l cf j):in64 (l.getD j default).kind/\in64 (l.getD j default).at_:=by
 rcases a0s j l.length with hj|hj
 ·obtain⟨⟨O,A,E⟩,_⟩:=h.1 default hj;exact⟨A,E⟩
 rw[dD hj];exact⟨by decide,by decide⟩
structure ErrT where
 why:Int
 at_:Int
 deriving Inhabited
instance :Rp ErrT where
 sz:=2
 rep F cs x:=cs=[iI x.why,iI x.at_]/\in64 x.why/\in64 x.at_
 len:=by rintro F cs x ⟨rfl,_⟩;rfl
 one:=by rintro F cs x ⟨rfl,_⟩;rfl
 mono:=by intro F F' cs x _ h;exact h
def eS(c:UInt8):Bool:=decide (97<=c.toNat)&&decide (c.toNat<=122)||decide (65<=c.toNat)&&decide (c.toNat<=90)||c.toNat==95
def b7(c:UInt8):Bool:=decide (48<=c.toNat)&&decide (c.toNat<=57)
def dP(c:UInt8):Bool:=eS c||b7 c
def aN(s:List UInt8):Nat:=(s.takeWhile dP).length
theorem fQ{p:UInt8->Bool}: ∀{s:List UInt8} {n:Nat},n<=s.length->(s.take n).all p=true->(n<s.length->p (s.getD n 0)=false)->n=(s.takeWhile p).length
 | [],n,h,_,_=>by simp at h;simp[h]
 |c::s,0,_,_,E=>by have:=E (by simp);simp only[List.getD_cons_zero]at this;rw[a1U,this];rfl
 |c::s,n+1,h,A,E=>by simp only[List.take_succ_cons,a0j,a05]at A;rw[a1U,A.1];have:=fQ (p:=p) (s:=s) (n:=n) (by simpa using h) A.2 (fun O=>by have:=E (by simpa using O);simpa using this);simp[←this]
theorem iH(s:List UInt8):aN s<=s.length:=(List.takeWhile_prefix _).length_le
def blankB(c:UInt8):Bool:=c==32||c==9||c==10||c==13
def isDigAll(s:List UInt8):Bool:=s.all b7
def most19:List UInt8:=[57,50,50,51,51,55,50,48,51,54,56,53,52,55,55,53,56,48,56]
def cP(s:List UInt8):Bool:=s.all b7&&((s.getD 0 0 !=48||s.length==1)&&(decide (s.length<19)||s.length==19&&(Op.bytesLess s most19||s==most19)))
theorem vn1{s:List UInt8}{i:Nat}(h:i<s.length)(c:b7 (s.getD i 0)=false):false=cP s:=by
 have:s.all b7=false:=by rw[List.all_eq_false];refine⟨s.getD i 0,?_,by simpa using c⟩;rw[a0b,a09 h];exact a1E h
 simp[cP,this]
theorem all_of_take{p:UInt8->Bool}{s:List UInt8}{i:Nat}(h:s.length<=i)(A:(s.take i).all p=true):s.all p=true:=by rwa [a0t h]at A
theorem nat_beq48(c:UInt8):(((c.toNat:Int) !=48))=(c !=48):=by
 by_cases h:c=48
 ·subst h;rfl
 have:c.toNat≠48:=fun e=>h (UInt8.toNat_inj.mp (by rw[e];rfl))
 have A:((c.toNat:Int) !=48)=true:=by simp;omega
 rw[A,eq_comm];simpa using h
theorem int_beq(a:Nat)(b:Nat):((a:Int)==(b:Int))=(a==b):=by rw[a18];simp;omega
theorem vn2{s:List UInt8}(h:s.all b7=true):(((((s.getD 0 0).toNat:Int) !=48)||((s.length:Int)==1))&&((decide ((s.length:Int)<19))||(((s.length:Int)==19)&&(Op.bytesLess s most19||s==most19))))=cP s:=by rw[cP,h,nat_beq48,show((s.length:Int)==1)=(s.length==1) from int_beq _ 1,show((s.length:Int)==19)=(s.length==19) from int_beq _ 19,a1I];rw[show decide ((s.length:Int)<19)=decide (s.length<19) from decide_eq_decide.mpr M]
def eF:List UInt8:=[43,45,42,47,37,38,124,94,126,33,60,62,61,63,58,59,44,40,41,123,125,91,93]
def ct(s:List UInt8):Nat:=
 if s.take 3=[62,62,62] then 3
 else if s.take 2=[60,60]\/s.take 2=[62,62]\/s.take 2=[60,61]\/s.take 2=[62,61]\/s.take 2=[61,61]\/s.take 2=[33,61] then 2
 else if s.getD 0 0∈eF then 1 else 0
theorem tk3{s:List UInt8}{a b c:UInt8}(h:(3:Int)<=s.length->s.take 3≠ [a,b,c]): ¬s.take 3=[a,b,c]:=by intro e;refine h ?_ e;have:=congrArg List.length e;rw[a0g]at this;simp only[a01,a02]at this;omega
theorem tk2{s:List UInt8}{a b:UInt8}(h:(2:Int)<=s.length->s.take 2≠ [a,b]): ¬s.take 2=[a,b]:=by intro e;refine h ?_ e;have:=congrArg List.length e;rw[a0g]at this;simp only[a01,a02]at this;omega
theorem sing_mem{c:UInt8}{i:Nat}(h:i<23)(e:((c.toNat:Int))=((eF.getD i 0).toNat:Int)):c∈eF:=by have:c=eF.getD i 0:=UInt8.toNat_inj.mp (by exact_mod_cast e);rw[this,a0b,a09 (show i<eF.length from h)];exact a1E _
theorem sing_ne{c:UInt8}{i j:Nat}(e:((c.toNat:Int))≠((eF.getD i 0).toNat:Int))(A: ∀j,j<i->c≠eF.getD j 0)(h:j<i+1):c≠eF.getD j 0:=by
 rcases Nat.lt_succ_iff_lt_or_eq.mp h with h|h
 ·exact A j h
 subst h;intro E;exact e (by rw[E])
theorem sing_no{c:UInt8}(A: ∀j,j<23->c≠eF.getD j 0):c∉eF:=by intro h;obtain⟨j,E,e⟩:=List.getElem_of_mem h;refine A j E ?_;rw[a0b,a09 E];exact e.symm
theorem isLetter_c(c:UInt8)(H:Heap):kKt ex 81 [(.int .u8 (c.toNat:Int))] H fun v H'=> ∃(r:Bool),H'=H/\v= .bool r/\r=eS c:=by
 refine aI Try.func81 V V ?_;refine ap 1 V ?_;refine wT 2 [] 2 2 [] [(2,(.bool false))] V fun _=>?_
 refine wT 1 [] 2 20 [] [(2,(.bool ((((decide ((97:Int)<=(c.toNat:Int)))&&(decide ((c.toNat:Int)<=122)))||((decide ((65:Int)<=(c.toNat:Int)))&&(decide ((c.toNat:Int)<=90))))||((c.toNat:Int)==95))))] V fun _=>?_
 refine ag ⟨.inr V,_,V,((((decide ((97:Int)<=(c.toNat:Int)))&&(decide ((c.toNat:Int)<=122)))||((decide ((65:Int)<=(c.toNat:Int)))&&(decide ((c.toNat:Int)<=90))))||((c.toNat:Int)==95)),V,V,(by simp[eS];grind)⟩
theorem isLetter_c_q(c:UInt8)(H:Heap):kKt ex 81 [(.int .u8 (c.toNat:Int))] H fun v H'=>v=(.bool (eS c))/\H'=H:=
 cq (isLetter_c ex c H) (by rintro _ _ ⟨_,rfl,rfl,rfl⟩;exact⟨V,V⟩)
theorem isDigit_c(c:UInt8)(H:Heap):kKt ex 77 [(.int .u8 (c.toNat:Int))] H fun v H'=> ∃(r:Bool),H'=H/\v= .bool r/\r=b7 c:=by
 refine aI Try.func77 V V ?_;refine ap 1 V ?_;refine wT 2 [] 2 2 [] [(2,(.bool false))] V fun _=>?_
 refine wT 1 [] 2 8 [] [(2,(.bool ((decide ((48:Int)<=(c.toNat:Int)))&&(decide ((c.toNat:Int)<=57)))))] V fun _=>?_
 refine ag ⟨.inr V,_,V,((decide ((48:Int)<=(c.toNat:Int)))&&(decide ((c.toNat:Int)<=57))),V,V,(by simp[b7];grind)⟩
theorem gZ(c:UInt8)(H:Heap):kKt ex 77 [(.int .u8 (c.toNat:Int))] H fun v H'=>v=(.bool (b7 c))/\H'=H:=
 cq (isDigit_c ex c H) (by rintro _ _ ⟨_,rfl,rfl,rfl⟩;exact⟨V,V⟩)
theorem wordLen_c(s:List UInt8)(H:Heap)(hl:s.length<4611686018427387904):kKt ex 75 [(tX s)] H fun v H'=> ∃(r:Nat),H'=H/\v=iI (r:Int)/\r=aN s:=by
 refine aI Try.func75 V V ?_;refine ap 1 V ?_;refine wT 2 [] 2 2 [] [(2,(iI 0))] V fun _=>?_
 refine wT 3 [] 1 0 [3] [(3,(iI 0))] V fun _=>?_
 refine au (fun(mm:Nat) f H'=> ∃(n:Nat),H'=H/\aM f [(0,(tX s)),(3,(iI (n:Int)))]/\mm=s.length-n/\(n<=s.length)/\((s.take n).all dP=true)) _ ⟨0,V,(agC V (agC V agN)),V,(by first|assumption|omega|(simp at *;omega)),q_⟩ ?_;rintro ax f3 H ⟨n,rfl,O,rfl,h1,a_⟩ Z;refine aF _ O (fun _=>?_);clear O;refine ap 2 V ?_;have an:=kJ (s.getD n 0);have ar:=kJ (s.getD n 0);refine wR 1 [(8,.o (.bool (eS (s.getD n 0)))),(13,.o (.bool (b7 (s.getD n 0))))] 4 19 [] [(19,(.bool ((decide ((n:Int)<(s.length:Int)))&&(eS (s.getD n 0)||b7 (s.getD n 0)))))] (vA (fun(A:(decide ((n:Int)<(s.length:Int)))=true)=>(vA (show(0:Int)<=(n:Int) from by(try simp only[BS]at A);omega) (show(n:Int)<(((s:List UInt8).length:Nat):Int) from by(try simp only[BS]at A);omega))) (vA (fun(A:(decide ((n:Int)<(s.length:Int)))=true)=>(isLetter_c_q ex (s.getD n 0) H)) (vA (fun(A:(eS (s.getD n 0))=false) (U:(decide ((n:Int)<(s.length:Int)))=true)=>(vA (show(0:Int)<=(n:Int) from by(try simp only[BS]at A U);omega) (show(n:Int)<(((s:List UInt8).length:Nat):Int) from by(try simp only[BS]at A U);omega))) (vA (fun(A:(eS (s.getD n 0))=false) (U:(decide ((n:Int)<(s.length:Int)))=true)=>(gZ ex (s.getD n 0) H)) trivial)))) V fun _=>?_
 refine ao 2 5 (v:=((decide ((n:Int)<(s.length:Int)))&&(eS (s.getD n 0)||b7 (s.getD n 0)))) V V V V (fun E=>?_) (fun E=>?_)
 ·try simp only[BS]at E
  have c:=E;refine wU 2 [] 20 21 [3] [(3,(iI ((n:Int)+1)))] (vi (n:=(n:Int)+1) M) V fun _=>?_
  refine Z _ _ _ ?_ ⟨n+1,V,(agC V (agC V agN)),V,(by first|assumption|omega|(simp at *;omega)),(by rw[all_take M,a_,dP];simpa using c.2)⟩;omega
 try simp only[BS]at E
 have c:=E;refine wT 1 [] 2 2 [22] [(2,(iI (n:Int)))] V fun _=>?_
 refine ag ⟨.inr V,_,V,n,V,V,(by exact fQ h1 a_ (fun hn=>by have:=c M;rw[dP,this.1,this.2];rfl))⟩
theorem wordLen_c_q(s:List UInt8)(H:Heap)(A:s.length<4611686018427387904):kKt ex 75 [(tX s)] H fun v H'=>v=(iI ((aN s:Nat):Int))/\H'=H:=
 cq (wordLen_c ex s H A) (by rintro _ _ ⟨_,rfl,rfl,rfl⟩;exact⟨V,V⟩)
theorem validNum_c(s:List UInt8)(H:Heap)(hl:s.length<4611686018427387904)(h0:0<s.length):kKt ex 78 [(tX s)] H fun v H'=> ∃(r:Bool),H'=H/\v= .bool r/\r=cP s:=by
 refine aI Try.func78 V V ?_;refine ap 1 V ?_;refine wT 3 [] 2 2 [] [(2,(.bool false))] V fun _=>?_
 refine wT 2 [] 1 0 [3] [(3,(iI 0))] V fun _=>?_
 refine au (fun(mm:Nat) f H'=> ∃(i:Nat),H'=H/\aM f [(0,(tX s)),(3,(iI (i:Int)))]/\mm=s.length-i/\(i<=s.length)/\((s.take i).all b7=true)) _ ⟨0,V,(agC V (agC V agN)),V,(by first|assumption|omega|(simp at *;omega)),q_⟩ ?_;rintro an f3 H ⟨i,rfl,O,rfl,h1,U⟩ a_;refine aF _ O (fun _=>?_);clear O;refine ap 2 V ?_;refine wT 1 [] 4 7 [] [(7,(.bool (decide ((i:Int)<(s.length:Int)))))] V fun _=>?_
 refine ao 4 5 (v:=(decide ((i:Int)<(s.length:Int)))) V V V V (fun A=>?_) (fun A=>?_)
 ·try simp only[BS]at A
  have ci:=A;have al:=kJ (s.getD i 0);refine wR 1 [(3,.o (.bool (b7 (s.getD i 0))))] 10 14 [] [(14,(.bool (!(b7 (s.getD i 0)))))] (vA (vA (show(0:Int)<=(i:Int) from by first|omega|(show 0<_;omega)) (show(i:Int)<(((s:List UInt8).length:Nat):Int) from by first|omega|(show 0<_;omega))) (vA (gZ ex (s.getD i 0) H) trivial)) V fun _=>?_
  refine ao 1 2 (v:=(!(b7 (s.getD i 0)))) V V V V (fun E=>?_) (fun E=>?_)
  ·try simp only[BS]at E
   have c:=E;refine wT 1 [] 2 2 [] [(2,(.bool false))] V fun _=>?_
   refine ag ⟨.inr V,_,V,false,V,V,(by exact vn1 M c)⟩
  try simp only[BS]at E
  have c:=E;refine wU 1 [] 8 9 [3] [(3,(iI ((i:Int)+1)))] (vi (n:=(i:Int)+1) (by first|omega|(show 0<_;omega))) V fun _=>?_
  refine a_ _ _ _ ?_ ⟨i+1,V,(agC V (agC V agN)),V,(by first|assumption|omega|(simp at *;omega)),(by rw[all_take M,U,c];rfl)⟩;omega
 try simp only[BS]at A
 have ci:=A;have Z:=kJ (s.getD 0 0);refine wU 1 [] 15 36 [2] [(2,(.bool (((((s.getD 0 0).toNat:Int) !=48)||((s.length:Int)==1))&&((decide ((s.length:Int)<19))||(((s.length:Int)==19)&&(Op.bytesLess s [57,50,50,51,51,55,50,48,51,54,56,53,52,55,55,53,56,48,56]||s==([57,50,50,51,51,55,50,48,51,54,56,53,52,55,55,53,56,48,56]:List UInt8)))))))] (vA (show(0:Int)<=0 from by first|omega|(show 0<_;omega)) (show(0:Int)<(((s:List UInt8).length:Nat):Int) from by first|omega|(show 0<_;omega))) V fun _=>?_
 refine ag ⟨.inr V,_,V,(((((s.getD 0 0).toNat:Int) !=48)||((s.length:Int)==1))&&((decide ((s.length:Int)<19))||(((s.length:Int)==19)&&(Op.bytesLess s [57,50,50,51,51,55,50,48,51,54,56,53,52,55,55,53,56,48,56]||s==([57,50,50,51,51,55,50,48,51,54,56,53,52,55,55,53,56,48,56]:List UInt8))))),V,V,(by exact vn2 (all_of_take M U))⟩
theorem validNum_c_q(s:List UInt8)(H:Heap)(E:s.length<4611686018427387904)(A:0<s.length):kKt ex 78 [(tX s)] H fun v H'=>v=(.bool (cP s))/\H'=H:=
 cq (validNum_c ex s H E A) (by rintro _ _ ⟨_,rfl,rfl,rfl⟩;exact⟨V,V⟩)
theorem symLen_c(s:List UInt8)(H:Heap)(h0:0<s.length):kKt ex 76 [(tX s)] H fun v H'=> ∃(r:Nat),H'=H/\v=iI (r:Int)/\r=ct s:=by
 refine aI Try.func76 V V ?_;refine ap 1 V ?_;refine wT 3 [] 2 2 [] [(2,(iI 0))] V fun _=>?_
 refine wT 2 [] 6 7 [] [(6,(aG [(tX [62,62,62]),(tX [60,60]),(tX [62,62]),(tX [60,61]),(tX [62,61]),(tX [61,61]),(tX [33,61])])),(7,(iI 0))] V fun _=>?_
 refine eY ?_;refine ap 1 V ?_;refine wT 2 [] 8 8 [] [(8,(.bool true))] V fun _=>?_
 refine cL 4 (v:=true) V V V V ?_;refine wT 2 [] 9 9 [4] [(4,(tX [62,62,62]))] V fun _=>?_
 refine wU 1 [] 10 22 [] [(22,(.bool ((decide ((3:Int)<=(s.length:Int)))&&((s.take 3)==([62,62,62]:List UInt8)))))] (fun(A:(decide ((3:Int)<=(s.length:Int)))=true)=>(vA (show(0:Int)<=3 from by(try simp only[BS]at A);(first|omega|(show _<23;omega))) (show(3:Int)<=(((s:List UInt8).length:Nat):Int) from by(try simp only[BS]at A);(first|omega|(show _<23;omega))))) V fun _=>?_
 refine ao 1 2 (v:=((decide ((3:Int)<=(s.length:Int)))&&((s.take 3)==([62,62,62]:List UInt8)))) V V V V (fun c6=>?_) (fun c6=>?_)
 ·try simp only[BS]at c6
  have nn:=(c6).2;refine wT 1 [] 23 24 [2] [(2,(iI 3))] V fun _=>?_
  refine ag ⟨.inr V,_,V,3,V,V,(by simp only[ct, *,↓reduceIte,true_or,or_true])⟩
 try simp only[BS]at c6
 first|have nn:=tk3 c6|have nn:=tk2 c6
 refine wU 1 [] 7 7 [25] [(7,(iI 1))] (vi (n:=(1:Int)) (by first|omega|(show _<23;omega))) V fun _=>?_
 refine eY ?_;refine ap 1 V ?_;refine wT 2 [] 8 8 [] [(8,(.bool true))] V fun _=>?_
 refine cL 4 (v:=true) V V V V ?_;refine wT 2 [] 9 9 [4] [(4,(tX [60,60]))] V fun _=>?_
 refine wU 1 [] 10 22 [] [(22,(.bool ((decide ((2:Int)<=(s.length:Int)))&&((s.take 2)==([60,60]:List UInt8)))))] (fun(A:(decide ((2:Int)<=(s.length:Int)))=true)=>(vA (show(0:Int)<=2 from by(try simp only[BS]at A);(first|omega|(show _<23;omega))) (show(2:Int)<=(((s:List UInt8).length:Nat):Int) from by(try simp only[BS]at A);(first|omega|(show _<23;omega))))) V fun _=>?_
 refine ao 1 2 (v:=((decide ((2:Int)<=(s.length:Int)))&&((s.take 2)==([60,60]:List UInt8)))) V V V V (fun E=>?_) (fun E=>?_)
 ·try simp only[BS]at E
  have nn:=(E).2;refine wT 1 [] 23 24 [2] [(2,(iI 2))] V fun _=>?_
  refine ag ⟨.inr V,_,V,2,V,V,(by simp only[ct, *,↓reduceIte,true_or,or_true])⟩
 try simp only[BS]at E
 first|have nn:=tk3 E|have nn:=tk2 E
 refine wU 1 [] 7 7 [25] [(7,(iI 2))] (vi (n:=(2:Int)) (by first|omega|(show _<23;omega))) V fun _=>?_
 refine eY ?_;refine ap 1 V ?_;refine wT 2 [] 8 8 [] [(8,(.bool true))] V fun _=>?_
 refine cL 4 (v:=true) V V V V ?_;refine wT 2 [] 9 9 [4] [(4,(tX [62,62]))] V fun _=>?_
 refine wU 1 [] 10 22 [] [(22,(.bool ((decide ((2:Int)<=(s.length:Int)))&&((s.take 2)==([62,62]:List UInt8)))))] (fun(A:(decide ((2:Int)<=(s.length:Int)))=true)=>(vA (show(0:Int)<=2 from by(try simp only[BS]at A);(first|omega|(show _<23;omega))) (show(2:Int)<=(((s:List UInt8).length:Nat):Int) from by(try simp only[BS]at A);(first|omega|(show _<23;omega))))) V fun _=>?_
 refine ao 1 2 (v:=((decide ((2:Int)<=(s.length:Int)))&&((s.take 2)==([62,62]:List UInt8)))) V V V V (fun O=>?_) (fun O=>?_)
 ·try simp only[BS]at O
  have nn:=(O).2;refine wT 1 [] 23 24 [2] [(2,(iI 2))] V fun _=>?_
  refine ag ⟨.inr V,_,V,2,V,V,(by simp only[ct, *,↓reduceIte,true_or,or_true])⟩
 try simp only[BS]at O
 first|have nn:=tk3 O|have nn:=tk2 O
 refine wU 1 [] 7 7 [25] [(7,(iI 3))] (vi (n:=(3:Int)) (by first|omega|(show _<23;omega))) V fun _=>?_
 refine eY ?_;refine ap 1 V ?_;refine wT 2 [] 8 8 [] [(8,(.bool true))] V fun _=>?_
 refine cL 4 (v:=true) V V V V ?_;refine wT 2 [] 9 9 [4] [(4,(tX [60,61]))] V fun _=>?_
 refine wU 1 [] 10 22 [] [(22,(.bool ((decide ((2:Int)<=(s.length:Int)))&&((s.take 2)==([60,61]:List UInt8)))))] (fun(A:(decide ((2:Int)<=(s.length:Int)))=true)=>(vA (show(0:Int)<=2 from by(try simp only[BS]at A);(first|omega|(show _<23;omega))) (show(2:Int)<=(((s:List UInt8).length:Nat):Int) from by(try simp only[BS]at A);(first|omega|(show _<23;omega))))) V fun _=>?_
 refine ao 1 2 (v:=((decide ((2:Int)<=(s.length:Int)))&&((s.take 2)==([60,61]:List UInt8)))) V V V V (fun U=>?_) (fun U=>?_)
 ·try simp only[BS]at U
  have nn:=(U).2;refine wT 1 [] 23 24 [2] [(2,(iI 2))] V fun _=>?_
  refine ag ⟨.inr V,_,V,2,V,V,(by simp only[ct, *,↓reduceIte,true_or,or_true])⟩
 try simp only[BS]at U
 first|have nn:=tk3 U|have nn:=tk2 U
 refine wU 1 [] 7 7 [25] [(7,(iI 4))] (vi (n:=(4:Int)) (by first|omega|(show _<23;omega))) V fun _=>?_
 refine eY ?_;refine ap 1 V ?_;refine wT 2 [] 8 8 [] [(8,(.bool true))] V fun _=>?_
 refine cL 4 (v:=true) V V V V ?_;refine wT 2 [] 9 9 [4] [(4,(tX [62,61]))] V fun _=>?_
 refine wU 1 [] 10 22 [] [(22,(.bool ((decide ((2:Int)<=(s.length:Int)))&&((s.take 2)==([62,61]:List UInt8)))))] (fun(A:(decide ((2:Int)<=(s.length:Int)))=true)=>(vA (show(0:Int)<=2 from by(try simp only[BS]at A);(first|omega|(show _<23;omega))) (show(2:Int)<=(((s:List UInt8).length:Nat):Int) from by(try simp only[BS]at A);(first|omega|(show _<23;omega))))) V fun _=>?_
 refine ao 1 2 (v:=((decide ((2:Int)<=(s.length:Int)))&&((s.take 2)==([62,61]:List UInt8)))) V V V V (fun a_=>?_) (fun a_=>?_)
 ·try simp only[BS]at a_
  have nn:=(a_).2;refine wT 1 [] 23 24 [2] [(2,(iI 2))] V fun _=>?_
  refine ag ⟨.inr V,_,V,2,V,V,(by simp only[ct, *,↓reduceIte,true_or,or_true])⟩
 try simp only[BS]at a_
 first|have nn:=tk3 a_|have nn:=tk2 a_
 refine wU 1 [] 7 7 [25] [(7,(iI 5))] (vi (n:=(5:Int)) (by first|omega|(show _<23;omega))) V fun _=>?_
 refine eY ?_;refine ap 1 V ?_;refine wT 2 [] 8 8 [] [(8,(.bool true))] V fun _=>?_
 refine cL 4 (v:=true) V V V V ?_;refine wT 2 [] 9 9 [4] [(4,(tX [61,61]))] V fun _=>?_
 refine wU 1 [] 10 22 [] [(22,(.bool ((decide ((2:Int)<=(s.length:Int)))&&((s.take 2)==([61,61]:List UInt8)))))] (fun(A:(decide ((2:Int)<=(s.length:Int)))=true)=>(vA (show(0:Int)<=2 from by(try simp only[BS]at A);(first|omega|(show _<23;omega))) (show(2:Int)<=(((s:List UInt8).length:Nat):Int) from by(try simp only[BS]at A);(first|omega|(show _<23;omega))))) V fun _=>?_
 refine ao 1 2 (v:=((decide ((2:Int)<=(s.length:Int)))&&((s.take 2)==([61,61]:List UInt8)))) V V V V (fun Z=>?_) (fun Z=>?_)
 ·try simp only[BS]at Z
  have nn:=(Z).2;refine wT 1 [] 23 24 [2] [(2,(iI 2))] V fun _=>?_
  refine ag ⟨.inr V,_,V,2,V,V,(by simp only[ct, *,↓reduceIte,true_or,or_true])⟩
 try simp only[BS]at Z
 first|have nn:=tk3 Z|have nn:=tk2 Z
 refine wU 1 [] 7 7 [25] [(7,(iI 6))] (vi (n:=(6:Int)) (by first|omega|(show _<23;omega))) V fun _=>?_
 refine eY ?_;refine ap 1 V ?_;refine wT 2 [] 8 8 [] [(8,(.bool true))] V fun _=>?_
 refine cL 4 (v:=true) V V V V ?_;refine wT 2 [] 9 9 [4] [(4,(tX [33,61]))] V fun _=>?_
 refine wU 1 [] 10 22 [] [(22,(.bool ((decide ((2:Int)<=(s.length:Int)))&&((s.take 2)==([33,61]:List UInt8)))))] (fun(A:(decide ((2:Int)<=(s.length:Int)))=true)=>(vA (show(0:Int)<=2 from by(try simp only[BS]at A);(first|omega|(show _<23;omega))) (show(2:Int)<=(((s:List UInt8).length:Nat):Int) from by(try simp only[BS]at A);(first|omega|(show _<23;omega))))) V fun _=>?_
 refine ao 1 2 (v:=((decide ((2:Int)<=(s.length:Int)))&&((s.take 2)==([33,61]:List UInt8)))) V V V V (fun al=>?_) (fun al=>?_)
 ·try simp only[BS]at al
  have nn:=(al).2;refine wT 1 [] 23 24 [2] [(2,(iI 2))] V fun _=>?_
  refine ag ⟨.inr V,_,V,2,V,V,(by simp only[ct, *,↓reduceIte,true_or,or_true])⟩
 try simp only[BS]at al
 first|have nn:=tk3 al|have nn:=tk2 al
 refine wU 1 [] 7 7 [25] [(7,(iI 7))] (vi (n:=(7:Int)) (by first|omega|(show _<23;omega))) V fun _=>?_
 refine eY ?_;refine ap 1 V ?_;refine wT 2 [] 8 8 [] [(8,(.bool false))] V fun _=>?_
 refine wk_iff 6 (v:=false) V V V V ?_;refine wT 2 [] 1 0 [5] [(5,(iI 0))] V fun _=>?_
 refine au (fun(mm:Nat) f H'=> ∃(i:Nat),H'=H/\aM f [(0,(tX s)),(5,(iI (i:Int)))]/\mm=23-i/\(i<=23)/\(∀j,j<i->s.getD 0 0≠eF.getD j 0)) _ ⟨0,V,(agC V (agC V agN)),V,(by first|assumption|omega|(simp at *;omega)),(by intro j hj;omega)⟩ ?_;rintro a4 a5 H ⟨i,rfl,aA,rfl,h1,h2⟩ a0;refine aF _ aA (fun _=>?_);clear aA;refine ap 2 V ?_;refine wT 1 [] 26 27 [] [(27,(.bool (decide ((i:Int)<23))))] V fun _=>?_
 refine ao 4 5 (v:=(decide ((i:Int)<23))) V V V V (fun ax=>?_) (fun ax=>?_)
 ·try simp only[BS]at ax
  have a2:=kJ (s.getD 0 0);have a3:=kJ (([43,45,42,47,37,38,124,94,126,33,60,62,61,63,58,59,44,40,41,123,125,91,93]:List UInt8).getD i 0);refine wRD 1 [] 30 34 [] [(34,(.bool (((s.getD 0 0).toNat:Int)==((([43,45,42,47,37,38,124,94,126,33,60,62,61,63,58,59,44,40,41,123,125,91,93]:List UInt8).getD i 0).toNat:Int))))] (vA (vA (show(0:Int)<=0 from by first|omega|(show _<23;omega)) (show(0:Int)<(((s:List UInt8).length:Nat):Int) from by first|omega|(show _<23;omega))) (vA (vA (show(0:Int)<=(i:Int) from by first|omega|(show _<23;omega)) (show(i:Int)<((([43,45,42,47,37,38,124,94,126,33,60,62,61,63,58,59,44,40,41,123,125,91,93]:List UInt8).length:Nat):Int) from by first|omega|(show _<23;omega))) trivial)) V V fun _=>?_
  refine ao 1 2 (v:=(((s.getD 0 0).toNat:Int)==((([43,45,42,47,37,38,124,94,126,33,60,62,61,63,58,59,44,40,41,123,125,91,93]:List UInt8).getD i 0).toNat:Int))) V V V V (fun an=>?_) (fun an=>?_)
  ·try simp only[BS]at an
   have ci:=an;refine wT 1 [] 2 2 [] [(2,(iI 1))] V fun _=>?_
   refine ag ⟨.inr V,_,V,1,V,V,(by have ms:=sing_mem M ci;simp only[ct, *,↓reduceIte,or_self])⟩
  try simp only[BS]at an
  have ci:=an;refine wU 1 [] 28 29 [5] [(5,(iI ((i:Int)+1)))] (vi (n:=(i:Int)+1) (by first|omega|(show _<23;omega))) V fun _=>?_
  refine a0 _ _ _ ?_ ⟨i+1,V,(agC V (agC V agN)),V,(by first|assumption|omega|(simp at *;omega)),(by exact fun j hj=>sing_ne ci h2 hj)⟩;omega
 try simp only[BS]at ax
 refine wT 1 [] 2 2 [] [(2,(iI 0))] V fun _=>?_
 refine ag ⟨.inr V,_,V,0,V,V,(by have ms:=sing_no (fun j hj=>h2 j M);simp only[ct, *,↓reduceIte,or_self])⟩
theorem symLen_c_q(s:List UInt8)(H:Heap)(A:0<s.length):kKt ex 76 [(tX s)] H fun v H'=>v=(iI ((ct s:Nat):Int))/\H'=H:=
 cq (symLen_c ex s H A) (by rintro _ _ ⟨_,rfl,rfl,rfl⟩;exact⟨V,V⟩)
def spl:Bool->List UInt8->Nat
 |_,[]=>0
 |false,c::s=>if c=32\/c=9\/c=10\/c=13 then 1+spl false s else if c=35 then 1+spl true s else 0
 |true,c::s=>if c=10 then 1+spl false s else 1+spl true s
theorem kZ: ∀(s:List UInt8) (b:Bool),spl b s<=s.length
 | [],b=>by simp[spl]
 |c::s,false=>by
  have A:=kZ s false;have E:=kZ s true
  rw[spl,a01];split
  ·omega
  split<;>omega
 |c::s,true=>by
  have A:=kZ s false;have E:=kZ s true
  rw[spl,a01];split<;>omega
theorem dropc{s:List UInt8}{n:Nat}(h:n<s.length):s.drop n=s.getD n 0::s.drop (n+1):=by rw[a0W h,a0b,a09 h];rfl
theorem u8i{c:UInt8}{k:Nat}(A:k<256)(h:(c.toNat:Int)=(k:Int)):c=UInt8.ofNat k:=by apply UInt8.toNat_inj.mp;rw[UInt8.toNat_ofNat'];omega
theorem u8e{c:UInt8}(k:Nat)(h:c=UInt8.ofNat k)(A:k<256:=by omega):(c.toNat:Int)=(k:Int):=by rw[h,UInt8.toNat_ofNat'];omega
theorem spE{b:Bool}{s:List UInt8}{n:Nat}(h: ¬n<s.length)(A:n<=s.length)(e:n+spl b (s.drop n)=spl false s):n=spl false s:=by rw[a1N M]at e;simpa[spl] using e
theorem spA{s:List UInt8}{n:Nat}(h:n<s.length)(c:s.getD n 0=32\/s.getD n 0=9\/s.getD n 0=10\/s.getD n 0=13)(e:n+spl false (s.drop n)=spl false s):n+1+spl false (s.drop (n+1))=spl false s:=by rw[dropc h,spl,if_pos c]at e;omega
theorem spH{s:List UInt8}{n:Nat}(h:n<s.length)(c:s.getD n 0=35)(e:n+spl false (s.drop n)=spl false s):n+spl true (s.drop n)=spl false s:=by rw[dropc h,spl,if_neg (by rw[c];decide),if_pos c]at e;rw[dropc h,spl,if_neg (by rw[c];decide)];exact e
theorem spT{s:List UInt8}{n:Nat}(h:n<s.length)(c:s.getD n 0≠10)(e:n+spl true (s.drop n)=spl false s):n+1+spl true (s.drop (n+1))=spl false s:=by rw[dropc h,spl,if_neg c]at e;omega
theorem spN{s:List UInt8}{n:Nat}(A:n<=s.length)(c:n<s.length->s.getD n 0=10)(e:n+spl true (s.drop n)=spl false s):n+spl false (s.drop n)=spl false s:=by
 by_cases h:n<s.length
 ·rw[dropc h,spl,if_pos (c h)]at e;rw[dropc h,spl,if_pos (.inr (.inr (.inl (c h))))];exact e
 rw[a1N M]at e⊢;exact e
theorem spX{s:List UInt8}{n:Nat}(h:n<s.length)(c: ¬(s.getD n 0=32\/s.getD n 0=9\/s.getD n 0=10\/s.getD n 0=13))(c2:s.getD n 0≠35)(e:n+spl false (s.drop n)=spl false s):n=spl false s:=by rw[dropc h,spl,if_neg c,if_neg c2]at e;exact e
theorem spaceLen_c(s:List UInt8)(H:Heap)(hl:s.length<4611686018427387904):kKt ex 67 [(tX s)] H fun v H'=> ∃(r:Nat),H'=H/\v=iI (r:Int)/\r=spl false s:=by
 refine aI Try.func67 V V ?_;refine ap 1 V ?_;refine wT 2 [] 2 2 [] [(2,(iI 0))] V fun _=>?_
 refine wT 3 [] 1 0 [3] [(3,(iI 0))] V fun _=>?_
 refine au (fun(mm:Nat) f H'=> ∃(n:Nat),H'=H/\aM f [(0,(tX s)),(3,(iI (n:Int)))]/\mm=s.length-n/\(n<=s.length)/\(n+spl false (s.drop n)=spl false s)) _ ⟨0,V,(agC V (agC V agN)),V,(by first|assumption|omega|(simp at *;omega)),(by simp)⟩ ?_;rintro bb f3 H ⟨n,rfl,a2,rfl,h1,A⟩ a_;refine aF _ a2 (fun _=>?_);clear a2;refine ap 2 V ?_;refine wT 1 [] 4 7 [] [(7,(.bool (decide ((n:Int)<(s.length:Int)))))] V fun _=>?_
 refine ao 3 5 (v:=(decide ((n:Int)<(s.length:Int)))) V V V V (fun c5=>?_) (fun c5=>?_)
 ·try simp only[BS]at c5
  have a9:=kJ (s.getD n 0);refine wU 4 [] 8 10 [] [(10,(.int .u8 ((s.getD n 0).toNat:Int)))] (vA (show(0:Int)<=(n:Int) from by omega) (show(n:Int)<(((s:List UInt8).length:Nat):Int) from by omega)) V fun _=>?_
  refine wT 1 [] 12 13 [] [(12,(.bool (((s.getD n 0).toNat:Int)==32)))] V fun _=>?_
  refine ao 1 1 (v:=(((s.getD n 0).toNat:Int)==32)) V V V V (fun Z=>?_) (fun Z=>?_)
  ·have c9:=Z;try simp only[BS]at c9
   refine cL 0 (v:=(((s.getD n 0).toNat:Int)==32)) V Z V V ?_;refine wU 3 [] 17 18 [3] [(3,(iI ((n:Int)+1)))] (vi (n:=(n:Int)+1) M) V fun _=>?_
   refine a_ _ _ _ ?_ ⟨n+1,V,(agC V (agC V agN)),V,(by first|assumption|omega|(simp at *;omega)),(by first|exact spA M (.inl (u8i (k:=32) M M)) A|exact spA M (.inr (.inl (u8i (k:=9) M M))) A|exact spA M (.inr (.inr (.inl (u8i (k:=10) M M)))) A|exact spA M (.inr (.inr (.inr (u8i (k:=13) M M)))) A|exact spN U (fun h=>(u8i (k:=10) M M)) g2)⟩;omega
  have c9:=Z;try simp only[BS]at c9
  refine wT 1 [] 12 14 [] [(12,(.bool (((s.getD n 0).toNat:Int)==9)))] V fun _=>?_
  refine ao 1 1 (v:=(((s.getD n 0).toNat:Int)==9)) V V V V (fun E=>?_) (fun E=>?_)
  ·have an:=E;try simp only[BS]at an
   refine cL 0 (v:=(((s.getD n 0).toNat:Int)==9)) V E V V ?_;refine wU 3 [] 17 18 [3] [(3,(iI ((n:Int)+1)))] (vi (n:=(n:Int)+1) M) V fun _=>?_
   refine a_ _ _ _ ?_ ⟨n+1,V,(agC V (agC V agN)),V,(by first|assumption|omega|(simp at *;omega)),(by first|exact spA M (.inl (u8i (k:=32) M M)) A|exact spA M (.inr (.inl (u8i (k:=9) M M))) A|exact spA M (.inr (.inr (.inl (u8i (k:=10) M M)))) A|exact spA M (.inr (.inr (.inr (u8i (k:=13) M M)))) A|exact spN U (fun h=>(u8i (k:=10) M M)) g2)⟩;omega
  have an:=E;try simp only[BS]at an
  refine wT 1 [] 12 15 [] [(12,(.bool (((s.getD n 0).toNat:Int)==10)))] V fun _=>?_
  refine ao 1 0 (v:=(((s.getD n 0).toNat:Int)==10)) V V V V (fun O=>?_) (fun O=>?_)
  ·have ar:=O;try simp only[BS]at ar
   refine cL 0 (v:=(((s.getD n 0).toNat:Int)==10)) V O V V ?_;refine wU 3 [] 17 18 [3] [(3,(iI ((n:Int)+1)))] (vi (n:=(n:Int)+1) M) V fun _=>?_
   refine a_ _ _ _ ?_ ⟨n+1,V,(agC V (agC V agN)),V,(by first|assumption|omega|(simp at *;omega)),(by first|exact spA M (.inl (u8i (k:=32) M M)) A|exact spA M (.inr (.inl (u8i (k:=9) M M))) A|exact spA M (.inr (.inr (.inl (u8i (k:=10) M M)))) A|exact spA M (.inr (.inr (.inr (u8i (k:=13) M M)))) A|exact spN U (fun h=>(u8i (k:=10) M M)) g2)⟩;omega
  have ar:=O;try simp only[BS]at ar
  refine wT 1 [] 12 16 [] [(12,(.bool (((s.getD n 0).toNat:Int)==13)))] V fun _=>?_
  refine ao 0 1 (v:=(((s.getD n 0).toNat:Int)==13)) V V V V (fun ax=>?_) (fun ax=>?_)
  ·try simp only[BS]at ax
   refine wU 3 [] 17 18 [3] [(3,(iI ((n:Int)+1)))] (vi (n:=(n:Int)+1) M) V fun _=>?_
   refine a_ _ _ _ ?_ ⟨n+1,V,(agC V (agC V agN)),V,(by first|assumption|omega|(simp at *;omega)),(by first|exact spA M (.inl (u8i (k:=32) M M)) A|exact spA M (.inr (.inl (u8i (k:=9) M M))) A|exact spA M (.inr (.inr (.inl (u8i (k:=10) M M)))) A|exact spA M (.inr (.inr (.inr (u8i (k:=13) M M)))) A|exact spN U (fun h=>(u8i (k:=10) M M)) g2)⟩;omega
  try simp only[BS]at ax
  refine wT 1 [] 19 20 [] [(19,(.bool (((s.getD n 0).toNat:Int)==35)))] V fun _=>?_
  refine ao 1 1 (v:=(((s.getD n 0).toNat:Int)==35)) V V V V (fun aA=>?_) (fun aA=>?_)
  ·try simp only[BS]at aA
   refine au (fun(mm:Nat) f H'=> ∃(m:Nat),H'=H/\aM f [(0,(tX s)),(3,(iI (m:Int)))]/\mm=s.length-m/\(m<=s.length)/\(m+spl true (s.drop m)=spl false s)/\(n<=m)) _ ⟨n,V,(agC V (agC V agN)),V,(by first|assumption|omega|(simp at *;omega)),(by exact spH M (u8i (k:=35) M M) A),(by first|assumption|omega|(simp at *;omega))⟩ ?_;rintro a8 ba H ⟨m,rfl,a1,rfl,U,g2,g3⟩ a5;refine aF _ a1 (fun _=>?_);clear a1;refine ap 2 V ?_;have a7:=kJ (s.getD m 0);refine wU 1 [] 21 30 [] [(30,(.bool ((decide ((m:Int)<(s.length:Int)))&&(((s.getD m 0).toNat:Int) !=10))))] (fun(U:(decide ((m:Int)<(s.length:Int)))=true)=>(vA (show(0:Int)<=(m:Int) from by(try simp only[BS]at U);omega) (show(m:Int)<(((s:List UInt8).length:Nat):Int) from by(try simp only[BS]at U);omega))) V fun _=>?_
   refine ao 2 6 (v:=((decide ((m:Int)<(s.length:Int)))&&(((s.getD m 0).toNat:Int) !=10))) V V V V (fun a0=>?_) (fun a0=>?_)
   ·try simp only[BS]at a0
    refine wU 2 [] 31 32 [3] [(3,(iI ((m:Int)+1)))] (vi (n:=(m:Int)+1) M) V fun _=>?_
    refine a5 _ _ _ ?_ ⟨m+1,V,(agC V (agC V agN)),V,(by first|assumption|omega|(simp at *;omega)),(by exact spT M (fun h=>by have:=u8e 10 h;omega) g2),(by first|assumption|omega|(simp at *;omega))⟩;omega
   try simp only[BS]at a0
   have gm:n<m:=by
    rcases a0s n m with h|h
    ·exact h
    exfalso;have e:m=n:=M
    subst e;omega
   refine a_ _ _ _ ?_ ⟨m,V,(agC V (agC V agN)),V,(by first|assumption|omega|(simp at *;omega)),(by first|exact spA M (.inl (u8i (k:=32) M M)) A|exact spA M (.inr (.inl (u8i (k:=9) M M))) A|exact spA M (.inr (.inr (.inl (u8i (k:=10) M M)))) A|exact spA M (.inr (.inr (.inr (u8i (k:=13) M M)))) A|exact spN U (fun h=>(u8i (k:=10) M M)) g2)⟩;omega
  try simp only[BS]at aA
  refine wT 1 [] 2 2 [11] [(2,(iI (n:Int)))] V fun _=>?_
  refine ag ⟨.inr V,_,V,n,V,V,(by first|exact spX M (by rintro(h|h|h|h)<;>(first|(have:=u8e 32 h;omega)|(have:=u8e 9 h;omega)|(have:=u8e 10 h;omega)|(have:=u8e 13 h;omega))) (fun h=>by have:=u8e 35 h;omega) A|exact spE M h1 A)⟩
 try simp only[BS]at c5
 refine wT 1 [] 2 2 [33] [(2,(iI (n:Int)))] V fun _=>?_
 refine ag ⟨.inr V,_,V,n,V,V,(by first|exact spX M (by rintro(h|h|h|h)<;>(first|(have:=u8e 32 h;omega)|(have:=u8e 9 h;omega)|(have:=u8e 10 h;omega)|(have:=u8e 13 h;omega))) (fun h=>by have:=u8e 35 h;omega) A|exact spE M h1 A)⟩
theorem iZ(s:List UInt8)(H:Heap)(A:s.length<4611686018427387904):kKt ex 67 [(tX s)] H fun v H'=>v=(iI ((spl false s:Nat):Int))/\H'=H:=
 cq (spaceLen_c ex s H A) (by rintro _ _ ⟨_,rfl,rfl,rfl⟩;exact⟨V,V⟩)
def aE(s:List UInt8):Int×List UInt8×Int:=
 if aN s=0 then(if ct s=0 then(0,[],2) else(3,s.take (ct s),0))
 else if b7 (s.getD 0 0)=true then(if cP (s.take (aN s))=true then(2,s.take (aN s),0) else(0,[],2))
 else if 16<aN s then(0,[],6) else(1,s.take (aN s),0)
theorem symLen_le{s:List UInt8}(E:0<s.length):ct s<=s.length:=by
 have A: ∀{w:List UInt8} {n:Nat},s.take n=w->w.length=n->n<=s.length:=by intro w n e O;have:=congrArg List.length e;rw[a0g]at this;omega
 rw[ct];split
 ·exact A ‹_› V
 split
 ·rename_i h;rcases h with h|h|h|h|h|h<;>exact A h V
 split<;>omega
theorem first_c(s:List UInt8)(hs:HS (.of H []) F H [] R)(h0:0<s.length)(hl:s.length<4611686018427387904):kKt ex 68 [(tX s)] H fun v H'=> ∃(t:Token) (e:Int) (F':Fz),Fz.le F F'/\HS (.of H []) F' H' [] R/\v= .tuple ⟨[.agg ⟨[iI t.kind,tX t.text.b,iI t.at_]⟩,iI e]⟩/\in64 t.kind/\in64 t.at_/\t=Token.mk (aE s).1 (Str.mk (aE s).2.1) 0/\e=(aE s).2.2:=by
 have hw:=iH s;have hy:=symLen_le h0;refine aI Try.func68 V V ?_;refine ap 1 V ?_;refine ad ?_;refine zn hs V fun b1 H2 A=>?_
 refine wa (iI 0) V V V ?_;refine am 2 V ?_;refine wU 4 [(1,.o (iI ((aN s:Nat):Int)))] 5 6 [4] [(4,(iI ((aN s:Nat):Int)))] (wordLen_c_q ex s H2 m_) V fun _=>?_
 refine wT 1 [] 7 9 [] [(7,(.bool (((aN s:Nat):Int)==0)))] V fun _=>?_
 refine ao 2 1 (v:=(((aN s:Nat):Int)==0)) V V V V (fun c5=>?_) (fun c5=>?_)
 ·try simp only[BS]at c5
  have z0:aN s=0:=M
  refine wU 2 [(1,.o (iI ((ct s:Nat):Int)))] 10 11 [4] [(4,(iI ((ct s:Nat):Int)))] (symLen_c_q ex s H2 m_) V fun _=>?_
  refine wT 1 [] 12 13 [] [(13,(.bool (((ct s:Nat):Int)==0)))] V fun _=>?_
  refine ao 1 2 (v:=(((ct s:Nat):Int)==0)) V V V V (fun c8=>?_) (fun c8=>?_)
  ·try simp only[BS]at c8
   have z1:ct s=0:=M
   refine sgr 1 3 3 [14] [(3,(iI 2))] (Hr_ 1 0 Hn_) A V V fun b2 H9 aA=>?_
   refine ag ⟨.inr V,_,(rC V (dC V V (h_ aA V) V) (rT V rN)),(⟨0,⟨[]⟩,0⟩:Token),2,_,fR,(HS.forget aA),V,m_,m_,(by simp only[aE, *,↓reduceIte,a0k,not_false_eq_true]),(by simp only[aE, *,↓reduceIte,a0k,not_false_eq_true])⟩
  try simp only[BS]at c8
  have z1: ¬ct s=0:=M
  refine sgr 1 15 18 [3] [(3,(iI 0))] (Ha_ (vA (show(0:Int)<=((ct s:Nat):Int) from by first|omega|(dsimp only;omega)|(rw[a0g];omega)) (show((ct s:Nat):Int)<=(((s:List UInt8).length:Nat):Int) from by first|omega|(dsimp only;omega)|(rw[a0g];omega))) (Hr_ 4 0 Hn_)) A V V fun a3 bn a_=>?_
  refine ag ⟨.inr V,_,(rC V (dC V V (h_ a_ V) V) (rT V rN)),(⟨3,⟨s.take (ct s)⟩,0⟩:Token),0,_,fR,(HS.forget a_),V,m_,m_,(by simp only[aE, *,↓reduceIte,a0k,not_false_eq_true]),(by simp only[aE, *,↓reduceIte,a0k,not_false_eq_true])⟩
 try simp only[BS]at c5
 have z0: ¬aN s=0:=M
 have a2:=kJ (s.getD 0 0);refine wR 1 [(2,.o (.bool (b7 (s.getD 0 0))))] 19 22 [] [(19,(.bool (b7 (s.getD 0 0))))] (vA (vA (show(0:Int)<=0 from by first|omega|(dsimp only;omega)|(rw[a0g];omega)) (show(0:Int)<(((s:List UInt8).length:Nat):Int) from by first|omega|(dsimp only;omega)|(rw[a0g];omega))) (vA (gZ ex (s.getD 0 0) H2) trivial)) V fun _=>?_
 refine ao 2 1 (v:=(b7 (s.getD 0 0))) V V V V (fun E=>?_) (fun E=>?_)
 ·try simp only[BS]at E
  have z2:b7 (s.getD 0 0)=true:=E;refine wR 1 [(3,.o (.bool (cP (s.take (aN s)))))] 23 27 [] [(27,(.bool (!(cP (s.take (aN s))))))] (vA (vA (show(0:Int)<=((aN s:Nat):Int) from by first|omega|(dsimp only;omega)|(rw[a0g];omega)) (show((aN s:Nat):Int)<=(((s:List UInt8).length:Nat):Int) from by first|omega|(dsimp only;omega)|(rw[a0g];omega))) (vA (validNum_c_q ex (s.take (aN s)) H2 m_ m_) trivial)) V fun _=>?_
  refine ao 1 2 (v:=(!(cP (s.take (aN s))))) V V V V (fun O=>?_) (fun O=>?_)
  ·try simp only[BS]at O
   have z3:cP (s.take (aN s))=false:=by simpa using O
   refine sgr 1 3 3 [28] [(3,(iI 2))] (Hr_ 1 0 Hn_) A V V fun a4 bt Z=>?_
   refine ag ⟨.inr V,_,(rC V (dC V V (h_ Z V) V) (rT V rN)),(⟨0,⟨[]⟩,0⟩:Token),2,_,fR,(HS.forget Z),V,m_,m_,(by simp only[aE, *,↓reduceIte,a0k,not_false_eq_true]),(by simp only[aE, *,↓reduceIte,a0k,not_false_eq_true])⟩
  try simp only[BS]at O
  have z3:cP (s.take (aN s))=true:=by simpa using O
  refine sgr 1 29 32 [3] [(3,(iI 0))] (Ha_ (vA (show(0:Int)<=((aN s:Nat):Int) from by first|omega|(dsimp only;omega)|(rw[a0g];omega)) (show((aN s:Nat):Int)<=(((s:List UInt8).length:Nat):Int) from by first|omega|(dsimp only;omega)|(rw[a0g];omega))) (Hr_ 4 0 Hn_)) A V V fun a5 bw al=>?_
  refine ag ⟨.inr V,_,(rC V (dC V V (h_ al V) V) (rT V rN)),(⟨2,⟨s.take (aN s)⟩,0⟩:Token),0,_,fR,(HS.forget al),V,m_,m_,(by simp only[aE, *,↓reduceIte,a0k,not_false_eq_true]),(by simp only[aE, *,↓reduceIte,a0k,not_false_eq_true])⟩
 try simp only[BS]at E
 have z2:b7 (s.getD 0 0)=false:=E;refine wT 1 [] 33 35 [] [(33,(.bool (decide ((16:Int)<((aN s:Nat):Int)))))] V fun _=>?_
 refine ao 1 3 (v:=(decide ((16:Int)<((aN s:Nat):Int)))) V V V V (fun U=>?_) (fun U=>?_)
 ·try simp only[BS]at U
  have z4:16<aN s:=M
  refine sgr 1 3 3 [36] [(3,(iI 6))] (Hr_ 1 0 Hn_) A V V fun a6 bF an=>?_
  refine ag ⟨.inr V,_,(rC V (dC V V (h_ an V) V) (rT V rN)),(⟨0,⟨[]⟩,0⟩:Token),6,_,fR,(HS.forget an),V,m_,m_,(by simp only[aE, *,↓reduceIte,a0k,not_false_eq_true]),(by simp only[aE, *,↓reduceIte,a0k,not_false_eq_true])⟩
 try simp only[BS]at U
 have z4: ¬16<aN s:=M
 refine sgr 1 37 40 [3] [(3,(iI 0))] (Ha_ (vA (show(0:Int)<=((aN s:Nat):Int) from by first|omega|(dsimp only;omega)|(rw[a0g];omega)) (show((aN s:Nat):Int)<=(((s:List UInt8).length:Nat):Int) from by first|omega|(dsimp only;omega)|(rw[a0g];omega))) (Hr_ 4 0 Hn_)) A V V fun a7 b0 ar=>?_
 refine ag ⟨.inr V,_,(rC V (dC V V (h_ ar V) V) (rT V rN)),(⟨1,⟨s.take (aN s)⟩,0⟩:Token),0,_,fR,(HS.forget ar),V,m_,m_,(by simp only[aE, *,↓reduceIte,a0k,not_false_eq_true]),(by simp only[aE, *,↓reduceIte,a0k,not_false_eq_true])⟩
theorem take_len{s:List UInt8}{n:Nat}(h:n<=s.length):(s.take n).length=n:=by rw[a0g];omega
theorem firstK_len{s:List UInt8}(A:0<s.length):(aE s).2.1.length<=s.length/\((aE s).2.2=0->0<(aE s).2.1.length)/\0<=(aE s).2.2/\(aE s).2.2<10:=by
 have E:=iH s;have O:=symLen_le A;have l1:=take_len E;have l2:=take_len O;rw[aE];split
 ·split
  ·simp
  dsimp only;omega
 split
 ·split
  ·dsimp only;omega
  simp
 split
 ·simp
 dsimp only;omega
abbrev Sc:=List Token×Int×Int
def consT(t:Token)(r:Sc):Sc:=if r.2.1=0 then(t::r.1,r.2) else r
def preT(l:List Token)(r:Sc):Sc:=if r.2.1=0 then(l++r.1,r.2) else r
def fV:Nat->List UInt8->Nat->Sc
 |0,_,_=>([],0,0)
 |f+1,s,at_=>
  if at_<s.length then
   if(aE (s.drop at_)).2.2=0 then
    consT ⟨(aE (s.drop at_)).1,⟨(aE (s.drop at_)).2.1⟩,at_⟩ (fV f s (at_+(aE (s.drop at_)).2.1.length+spl false (s.drop (at_+(aE (s.drop at_)).2.1.length))))
   else([],(aE (s.drop at_)).2.2,at_)
  else([],0,0)
def bR(s:List UInt8):Sc:=if 20000<s.length then([],6,20000) else fV (s.length+1) s (spl false s)
theorem pre_cons(l:List Token)(t:Token)(r:Sc):preT l (consT t r)=preT (l++[t]) r:=by
 unfold preT consT;by_cases h:r.2.1=0
 ·simp[h]
 simp[h]
theorem pre_nil(r:Sc):preT [] r=r:=by unfold preT;split<;>rfl
theorem scan_step{s:List UInt8}{E f:Nat}{l:List Token}{R:Sc}(h:E<s.length)(O:s.length-E<f)(e:(aE (s.drop E)).2.2=0)(A:preT l (fV f s E)=R):
  preT (l++[⟨(aE (s.drop E)).1,⟨(aE (s.drop E)).2.1⟩,E⟩]) (fV (f-1) s (E+(aE (s.drop E)).2.1.length+spl false (s.drop (E+(aE (s.drop E)).2.1.length))))=R:=by
 obtain⟨g,rfl⟩: ∃g,f=g+1:=⟨f-1,by omega⟩
 rw[fV,if_pos h,if_pos e,pre_cons]at A
 exact A
theorem scan_err{s:List UInt8}{E f:Nat}{l:List Token}{R:Sc}(h:E<s.length)(O:s.length-E<f)(e:(aE (s.drop E)).2.2≠0)(A:preT l (fV f s E)=R):R=([],(aE (s.drop E)).2.2,(E:Int)):=by
 obtain⟨g,rfl⟩: ∃g,f=g+1:=⟨f-1,by omega⟩
 rw[fV,if_pos h,if_neg e,preT,if_neg (by exact e)]at A;exact A.symm
theorem scan_end{s:List UInt8}{E f:Nat}{l:List Token}{R:Sc}(h: ¬E<s.length)(A:preT l (fV f s E)=R):R=(l,0,0):=by
 have:fV f s E=([],0,0):=by
  cases f with
  |zero=>rfl
  |succ f=>rw[fV,if_neg h]
 rw[this,preT,if_pos V,a0f]at A;exact A.symm
theorem scan_c(s:List UInt8)(hs:HS (.of H []) F H [] R)(hl:s.length<4611686018427387904):kKt ex 54 [(tX s)] H fun v H'=> ∃(al:Option Addr) (kl:Nat) (l:List Token) (p:Fp) (e:ErrT) (F':Fz),Fz.le F F'/\HS (.of H []) F' H' [p] R/\v= .tuple ⟨[sL al l.length kl,.agg ⟨[iI e.why,iI e.at_]⟩]⟩/\OS F' (sL al l.length kl) l p/\in64 e.why/\in64 e.at_/\l=(bR s).1/\e=ErrT.mk (bR s).2.1 (bR s).2.2:=by
 refine aI Try.func54 V V ?_;refine ap 1 V ?_;refine ad ?_;refine wa (sL none 0 0) V V V ?_;refine zn hs V fun b1 H2 a9=>?_
 refine am 3 V ?_;refine wT 1 [] 8 10 [] [(10,(.bool (decide ((20000:Int)<(s.length:Int)))))] V fun _=>?_
 refine ao 1 2 (v:=(decide ((20000:Int)<(s.length:Int)))) V V V V (fun c4=>?_) (fun c4=>?_)
 ·try simp only[BS]at c4
  refine sgr 1 2 2 [11] [(2,(sL none 0 0))] (Hr_ 2 0 Hn_) a9 V V fun d1 H5 ba=>?_
  refine ag ⟨.inr V,_,(rT V (rC V (dC V V (h_ ba V) V) rN)),none,0,([]:List Token),[],(⟨6,20000⟩:ErrT),_,fR,(HS.cons (HS.forget ba)),V,(OS.nil:OS _ _ _ []),n_,n_,(by rw[bR,if_pos M]),(by rw[bR,if_pos M])⟩
 try simp only[BS]at c4
 refine wT 3 [] 1 0 [4] [(4,(sL none 0 0))] V fun _=>?_
 refine wU 2 [(1,.o (iI ((spl false s:Nat):Int)))] 12 13 [5] [(5,(iI ((spl false s:Nat):Int)))] (iZ ex s H2 n_) V fun _=>?_
 have b3:=HS.snoc a9;refine au (fun(mm:Nat) f H'=> ∃(ax:Nat) (l:List Token) (fu:Nat) (A:Option Addr) (E:Nat) (U:Fp) (F':Fz),Fz.le F F'/\HS (Base.of H []) F' H' [(fP b1 [(iI 0),(iI 0)]),U] R/\OS F' (sL A l.length E) l U/\aM f [(0,(tX s)),(3,(pT b1 0)),(4,(sL A l.length E)),(5,(iI (ax:Int)))]/\mm=s.length-ax/\(ax<=s.length)/\(s.length-ax<fu)/\(preT l (fV fu s ax)=bR s)/\(l.length<=ax)) _ ⟨spl false s,([]:List Token),s.length+1,none,0,[],_,fR,b3,(OS.nil:OS _ (sL none 0 0) ([]:List Token) []),(agC V (agC V (agC V (agC V agN)))),V,(by exact kZ s false),M,(by rw[bR,if_neg M];(first|done|exact pre_nil _)),(by exact a0p _)⟩ ?_;rintro d3 f8 H8 ⟨ax,l,fu,A,E,U,F8,aA,a6,O,a8,rfl,h1,hf,h2,h3⟩ b4;refine aF _ a8 (fun _=>?_);clear a8;refine ap 2 V ?_;refine wT 1 [] 14 17 [] [(17,(.bool (decide ((ax:Int)<(s.length:Int)))))] V fun _=>?_
 refine ao 4 5 (v:=(decide ((ax:Int)<(s.length:Int)))) V V V V (fun an=>?_) (fun an=>?_)
 ·try simp only[BS]at an
  have hd:(s.drop ax).length=s.length-ax:=a0u ..;have q:=firstK_len (s:=s.drop ax) M;have sp:=kZ (s.drop (ax+(aE (s.drop ax)).2.1.length)) false;rw[a0u]at sp;refine ad ?_;refine dG 3 0 25 27 [] [(27,(tX (s.drop ax)))] (Ha_ (vA (show(0:Int)<=(ax:Int) from by first|omega|(dsimp only;omega)|(rw[a0u];omega)) (show(ax:Int)<=(((s:List UInt8).length:Nat):Int) from by first|omega|(dsimp only;omega)|(rw[a0u];omega))) Hn_) (by kernel_rfl) V fun _=>?_
  refine ay (aq V V V) V V (first_c ex (s.drop ax) (HS.call a6) n_ n_) ?_;rintro _ c3 ⟨d5,dt,c0,a_,Z,rfl,bw,bF,rfl,rfl⟩;replace Z:=HS.back a6 V Z;replace O:=O.mono a_;refine dG 3 4 29 30 [24] [(29,(aG [(iI ((Token.mk (aE (s.drop ax)).1 (Str.mk (aE (s.drop ax)).2.1) 0).kind)),(tX (Token.mk (aE (s.drop ax)).1 (Str.mk (aE (s.drop ax)).2.1) 0).text.b),(iI ((Token.mk (aE (s.drop ax)).1 (Str.mk (aE (s.drop ax)).2.1) 0).at_))])),(30,(iI ((aE (s.drop ax)).2.2)))] Hn_ (by kernel_rfl) V fun _=>?_
  refine zn Z V fun ds c5 bt=>?_
  refine sgo 2 8 1 0 [7] [(7,(iI ((aE (s.drop ax)).2.2)))] (Hr_ 8 2 Hn_) bt V V fun b9 c6 a0=>?_
  refine am 3 V ?_;refine wT 1 [] 31 32 [] [(32,(.bool ((aE (s.drop ax)).2.2 !=0)))] V fun _=>?_
  refine ao 1 2 (v:=((aE (s.drop ax)).2.2 !=0)) V V V V (fun ar=>?_) (fun ar=>?_)
  ·try simp only[BS]at ar
   refine sgr 1 33 35 [2] [(2,(sL none 0 0))] (Hr_ 4 0 Hn_) a0 V V fun ch c7 a1=>?_
   refine ag ⟨.inr V,_,(rT V (rC V (dC V V (h_ a1 V) V) rN)),none,0,([]:List Token),[],(⟨(aE (s.drop ax)).2.2,(ax:Int)⟩:ErrT),_,(fT (aA) a_),(HS.cons (HS.forget a1)),V,(OS.nil:OS _ _ _ []),n_,n_,(by rw[scan_err M hf M h2]),(by rw[scan_err M hf M h2])⟩
  try simp only[BS]at ar
  refine sgr 2 36 37 [] [] (Hr_ 2 2 Hn_) a0 V V fun ci c8 a2=>?_
  refine ad ?_;refine du 2 0 38 39 [] [(38,(sL A l.length E)),(39,(aG [(iI ((Token.mk (aE (s.drop ax)).1 (Str.mk (aE (s.drop ax)).2.1) 0).kind)),(tX (Token.mk (aE (s.drop ax)).1 (Str.mk (aE (s.drop ax)).2.1) 0).text.b),(iI (ax:Int))]))] (Hr_ 1 2 Hn_) a2 V V fun _=>?_
  refine zlo ([(⟨(Token.mk (aE (s.drop ax)).1 (Str.mk (aE (s.drop ax)).2.1) 0).kind,⟨(Token.mk (aE (s.drop ax)).1 (Str.mk (aE (s.drop ax)).2.1) 0).text.b⟩,(ax:Int)⟩:Token)]:List Token) a2 V (RL.cs ⟨V,by first|omega|(dsimp only;omega)|(rw[a0u];omega),by first|omega|(dsimp only;omega)|(rw[a0u];omega)⟩ RL.nl) V fun dn d2 d4 c9 bl a3=>?_
  refine zao 1 O a3 (OS.sv bl a3 (i:=3) V) V V V l_ fun a7 bb b6 b0 bn a4=>?_
  refine wa (sL a7 (l++([(⟨(Token.mk (aE (s.drop ax)).1 (Str.mk (aE (s.drop ax)).2.1) 0).kind,⟨(Token.mk (aE (s.drop ax)).1 (Str.mk (aE (s.drop ax)).2.1) 0).text.b⟩,(ax:Int)⟩:Token)]:List Token)).length bb) V V V ?_;refine am 1 V ?_;refine ef 2 42 46 [5] [(5,(iI ((ax:Int)+(((Token.mk (aE (s.drop ax)).1 (Str.mk (aE (s.drop ax)).2.1) 0).text.b).length:Int))))] (Hr_ 2 2 (Ha_ (vi (n:=(ax:Int)+(((Token.mk (aE (s.drop ax)).1 (Str.mk (aE (s.drop ax)).2.1) 0).text.b).length:Int)) n_) Hn_)) a4 V V fun _=>?_
  refine wR 1 [(4,.o (iI ((spl false (s.drop (ax+(((Token.mk (aE (s.drop ax)).1 (Str.mk (aE (s.drop ax)).2.1) 0).text.b).length))):Nat):Int)))] 18 23 [5] [(5,(iI (((ax:Int)+(((Token.mk (aE (s.drop ax)).1 (Str.mk (aE (s.drop ax)).2.1) 0).text.b).length:Int))+((spl false (s.drop (ax+(((Token.mk (aE (s.drop ax)).1 (Str.mk (aE (s.drop ax)).2.1) 0).text.b).length))):Nat):Int))))] (vA (vA (show(0:Int)<=(ax:Int)+(((Token.mk (aE (s.drop ax)).1 (Str.mk (aE (s.drop ax)).2.1) 0).text.b).length:Int) from by first|omega|(dsimp only;omega)|(rw[a0u];omega)) (show(ax:Int)+(((Token.mk (aE (s.drop ax)).1 (Str.mk (aE (s.drop ax)).2.1) 0).text.b).length:Int)<=(((s:List UInt8).length:Nat):Int) from by first|omega|(dsimp only;omega)|(rw[a0u];omega))) (vA (iZ ex (s.drop (ax+(((Token.mk (aE (s.drop ax)).1 (Str.mk (aE (s.drop ax)).2.1) 0).text.b).length))) b0 n_) (vA (vi (n:=((ax:Int)+(((Token.mk (aE (s.drop ax)).1 (Str.mk (aE (s.drop ax)).2.1) 0).text.b).length:Int))+((spl false (s.drop (ax+(((Token.mk (aE (s.drop ax)).1 (Str.mk (aE (s.drop ax)).2.1) 0).text.b).length))):Nat):Int)) n_) trivial))) V fun _=>?_
  refine b4 _ _ _ ?_ ⟨(ax+(((Token.mk (aE (s.drop ax)).1 (Str.mk (aE (s.drop ax)).2.1) 0).text.b).length))+(spl false (s.drop (ax+(((Token.mk (aE (s.drop ax)).1 (Str.mk (aE (s.drop ax)).2.1) 0).text.b).length)))),l++([(⟨(Token.mk (aE (s.drop ax)).1 (Str.mk (aE (s.drop ax)).2.1) 0).kind,⟨(Token.mk (aE (s.drop ax)).1 (Str.mk (aE (s.drop ax)).2.1) 0).text.b⟩,(ax:Int)⟩:Token)]:List Token),fu-1,a7,bb,b6,_,(fT (aA) a_),(HS.sub a4 (a06 _ _)),bn,(agC V (agC V (agC V (agC V agN)))),V,(by dsimp only;omega),(by dsimp only;omega),(by exact scan_step M hf M h2),(by rw[a00,a1i];dsimp only;omega)⟩;dsimp only;omega
 try simp only[BS]at an
 refine sgr 1 47 48 [2] [(2,(sL A l.length E))] (Hr_ 3 0 Hn_) a6 V V fun co dk a5=>?_
 refine ag ⟨.inr V,_,(rT V (rC V (dC V V (h_ a5 V) V) rN)),A,E,l,U,(⟨0,0⟩:ErrT),_,(aA),(HS.only a5 (i:=1) V),V,O,n_,n_,(by rw[scan_end M h2]),(by rw[scan_end M h2])⟩
def j6(n m:Int):Int:=bif decide (Int.tmod n m<0) then Int.tmod n m+m else Int.tmod n m
theorem pick_c(n:Int)(m:Int)(H:Heap)(Z:0<m/\m<9223372036854775808):kKt ex 9 [(iI n),(iI m)] H fun v H'=> ∃(r:Int),H'=H/\v=iI r/\r=j6 n m/\(0<=r/\r<m):=by
 have O: -m<n.tmod m:=Int.lt_tmod_of_pos n Z.1;have U:n.tmod m<m:=Int.tmod_lt_of_pos n Z.1;refine aI Try.func9 V V ?_;refine ap 1 V ?_;refine wT 2 [] 4 4 [] [(4,(iI 0))] V fun _=>?_
 refine wU 3 [] 5 7 [0] [(0,(iI (Int.tmod n m)))] (show m≠0 from by omega) V fun _=>?_
 refine wT 1 [] 8 9 [] [(9,(.bool (decide (Int.tmod n m<0))))] V fun _=>?_
 refine ao 0 2 (v:=(decide (Int.tmod n m<0))) V V V V (fun A=>?_) (fun A=>?_)
 ·have E:=A;try simp only[BS]at E
  refine wU 2 [] 10 12 [0] [(0,(iI ((Int.tmod n m)+m)))] (vi (n:=(Int.tmod n m)+m) M) V fun _=>?_
  refine wT 1 [] 4 4 [13] [(4,(iI ((Int.tmod n m)+m)))] V fun _=>?_
  refine ag ⟨.inr V,_,V,(Int.tmod n m)+m,V,V,(by simp only[j6,A,cond_true,cond_false]),M⟩
 have E:=A;try simp only[BS]at E
 refine wT 1 [] 4 4 [13] [(4,(iI (Int.tmod n m)))] V fun _=>?_
 refine ag ⟨.inr V,_,V,Int.tmod n m,V,V,(by simp only[j6,A,cond_true,cond_false]),M⟩
theorem pick_c_q(n:Int)(m:Int)(H:Heap)(A:0<m/\m<9223372036854775808):kKt ex 9 [(iI n),(iI m)] H fun v H'=>v=(iI (j6 n m))/\H'=H:=
 cq (pick_c ex n m H A) (by rintro _ _ ⟨_,rfl,rfl,rfl,_⟩;exact⟨V,V⟩)
end Go.Proofs.Ytkpgbdkkgcdhmaa.l1
