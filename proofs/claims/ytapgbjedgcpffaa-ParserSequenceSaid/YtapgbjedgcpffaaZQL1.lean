/-
The lexer of the program. No condition but that a text is not longer than a machine eX.
-/
import Derived.Test.YtapgbjedgcpffaaZQRD
import Derived.Test.YtapgbjedgcpffaaChecked
noncomputable section
namespace Go.Proofs.Ytapgbjedgcpffaa
abbrev kKt(e:FuncId):=Go.R.C Try.prog 0 (Go.R.KX e)
end Go.Proofs.Ytapgbjedgcpffaa
namespace Go.Proofs.Ytapgbjedgcpffaa.l1
open Go.R
set_option maxRecDepth 10000
set_option linter.unusedVariables false
set_option linter.unusedSimpArgs false
variable (ex:FuncId) {F:Fz} {H:Heap} {R:List Fp}
theorem ql{H:Heap}{b o:Nat}{cs:List Value}{w:Value}(t:TypeId)(i:Nat)(hc:HC H.get b o cs)(ha:fe Try.prog t=some false)(h:cs[i]?=some w):LDv Try.prog H t (.pointer (some ⟨b,o+i,none⟩)) w:=ld1 hc ha h
theorem qn{H:Heap}{b o:Nat}{cs l:List Value}(t:TypeId)(i n:Nat)(hc:HC H.get b o cs)(ha:fe Try.prog t=some true)(hs:dJ Try.prog t=some n)(E:Nat.ble (i+n) cs.length=true)(h:gE (gG cs i) n=l):LDv Try.prog H t (.pointer (some ⟨b,o+i,none⟩)) (.agg ⟨l⟩):=ldN hc ha hs E h
structure Token where
 kind:Int
 text:Str
 at_:Int
 deriving Inhabited
instance :Rp Token where
 sz:=3
 rep F cs x:=cs=[iI x.kind,tX x.text.b,iI x.at_]/\in64 x.kind/\in64 x.at_
 len:=by rintro F cs x ⟨rfl,_⟩;rfl
 one:=by rintro F cs x ⟨rfl,_⟩;rfl
 mono:=by intro F F' cs x _ h;exact h
theorem Token.vw{F:Fz}{get:Nat->Option AObj}{v:Value}{cf:Nat->List Value}{j:Nat}{l:List Token}(h:VW F get v l cf j)(T:j<l.length:=by first|(dsimp only;omega)|omega):HC get (sB v) (sO v+j *Rp.sz Token) [iI (l.getD j default).kind,tX (l.getD j default).text.b,iI (l.getD j default).at_]:=by obtain⟨⟨O,_⟩,E⟩:=h.1 default T;rw[show cf j=_ from O]at E;exact E
theorem Token.fx{F:Fz}{get:Nat->Option AObj}{v:Value}{cf:Nat->List Value}{j:Nat}{l:List Token}(h:VW F get v l cf j):in64 (l.getD j default).kind/\in64 (l.getD j default).at_:=by
 rcases a0k j l.length with hj|hj
 ·obtain⟨⟨T,E,O⟩,_⟩:=h.1 default hj;exact⟨E,O⟩
 rw[bY hj];exact⟨by decide,by decide⟩
structure ErrT where
 why:Int
 at_:Int
 deriving Inhabited
instance :Rp ErrT where
 sz:=2
 rep F cs x:=cs=[iI x.why,iI x.at_]/\in64 x.why/\in64 x.at_
 len:=by rintro F cs x ⟨rfl,_⟩;rfl
 one:=by rintro F cs x ⟨rfl,_⟩;rfl
 mono:=by intro F F' cs x _ h;exact h
def bT(c:UInt8):Bool:=decide (97<=c.toNat)&&decide (c.toNat<=122)||decide (65<=c.toNat)&&decide (c.toNat<=90)||c.toNat==95
def bu(c:UInt8):Bool:=decide (48<=c.toNat)&&decide (c.toNat<=57)
def bF(c:UInt8):Bool:=bT c||bu c
def aZ(s:List UInt8):Nat:=(s.takeWhile bF).length
theorem iR{p:UInt8->Bool}: ∀{s:List UInt8} {n:Nat},n<=s.length->(s.take n).all p=true->(n<s.length->p (s.getD n 0)=false)->n=(s.takeWhile p).length
 | [],n,h,_,_=>by simp at h;simp[h]
 |c::s,0,_,_,O=>by have:=O (by simp);simp only[List.getD_cons_zero]at this;rw[a1b,this];rfl
 |c::s,n+1,h,E,O=>by simp only[List.take_succ_cons,a0R,a04]at E;rw[a1b,E.1];have:=iR (p:=p) (s:=s) (n:=n) (by simpa using h) E.2 (fun T=>by have:=O (by simpa using T);simpa using this);simp[←this]
theorem kN(s:List UInt8):aZ s<=s.length:=(List.takeWhile_prefix _).length_le
def blankB(c:UInt8):Bool:=c==32||c==9||c==10||c==13
def isDigAll(s:List UInt8):Bool:=s.all bu
def iZ:List UInt8:=[57,50,50,51,51,55,50,48,51,54,56,53,52,55,55,53,56,48,56]
def cJ(s:List UInt8):Bool:=s.all bu&&((s.getD 0 0 !=48||s.length==1)&&(decide (s.length<19)||s.length==19&&(Op.bytesLess s iZ||s==iZ)))
theorem vn1{s:List UInt8}{i:Nat}(h:i<s.length)(c:bu (s.getD i 0)=false):false=cJ s:=by
 have:s.all bu=false:=by rw[List.all_eq_false];refine⟨s.getD i 0,?_,by simpa using c⟩;rw[a0a,a09 h];exact a0J h
 simp[cJ,this]
theorem all_of_take{p:UInt8->Bool}{s:List UInt8}{i:Nat}(h:s.length<=i)(E:(s.take i).all p=true):s.all p=true:=by rwa [a0C h]at E
theorem nat_beq48(c:UInt8):(((c.toNat:Int) !=48))=(c !=48):=by
 by_cases h:c=48
 ·subst h;rfl
 have:c.toNat≠48:=fun e=>h (UInt8.toNat_inj.mp (by rw[e];rfl))
 have E:((c.toNat:Int) !=48)=true:=by simp;omega
 rw[E,eq_comm];simpa using h
theorem int_beq(a:Nat)(b:Nat):((a:Int)==(b:Int))=(a==b):=by rw[a1v];simp;omega
theorem vn2{s:List UInt8}(h:s.all bu=true):(((((s.getD 0 0).toNat:Int) !=48)||((s.length:Int)==1))&&((decide ((s.length:Int)<19))||(((s.length:Int)==19)&&(Op.bytesLess s iZ||s==iZ))))=cJ s:=by rw[cJ,h,nat_beq48,show((s.length:Int)==1)=(s.length==1) from int_beq _ 1,show((s.length:Int)==19)=(s.length==19) from int_beq _ 19,a1j];rw[show decide ((s.length:Int)<19)=decide (s.length<19) from decide_eq_decide.mpr (by omega)]
def dr:List UInt8:=[43,45,42,47,37,38,124,94,126,33,60,62,61,63,58,59,44,40,41,123,125,91,93]
def bL(s:List UInt8):Nat:=
 if s.take 3=[62,62,62] then 3
 else if s.take 2=[60,60]\/s.take 2=[62,62]\/s.take 2=[60,61]\/s.take 2=[62,61]\/s.take 2=[61,61]\/s.take 2=[33,61] then 2
 else if s.getD 0 0∈dr then 1 else 0
theorem tk3{s:List UInt8}{a b c:UInt8}(h:(3:Int)<=s.length->s.take 3≠ [a,b,c]): ¬s.take 3=[a,b,c]:=by intro e;refine h ?_ e;have:=congrArg List.length e;rw[a0I]at this;simp only[a01,a03]at this;omega
theorem tk2{s:List UInt8}{a b:UInt8}(h:(2:Int)<=s.length->s.take 2≠ [a,b]): ¬s.take 2=[a,b]:=by intro e;refine h ?_ e;have:=congrArg List.length e;rw[a0I]at this;simp only[a01,a03]at this;omega
theorem sing_mem{c:UInt8}{i:Nat}(h:i<23)(e:((c.toNat:Int))=((dr.getD i 0).toNat:Int)):c∈dr:=by have:c=dr.getD i 0:=UInt8.toNat_inj.mp (by exact_mod_cast e);rw[this,a0a,a09 (show i<dr.length from h)];exact a0J _
theorem sing_ne{c:UInt8}{i j:Nat}(e:((c.toNat:Int))≠((dr.getD i 0).toNat:Int))(E: ∀j,j<i->c≠dr.getD j 0)(h:j<i+1):c≠dr.getD j 0:=by
 rcases Nat.lt_succ_iff_lt_or_eq.mp h with h|h
 ·exact E j h
 subst h;intro O;exact e (by rw[O])
theorem sing_no{c:UInt8}(E: ∀j,j<23->c≠dr.getD j 0):c∉dr:=by intro h;obtain⟨j,O,e⟩:=a1Q h;refine E j O ?_;rw[a0a,a09 O];exact e.symm
theorem isLetter_c(c:UInt8)(H:Heap):kKt ex 77 [(.int .u8 (c.toNat:Int))] H fun v H'=> ∃(r:Bool),H'=H/\v= .bool r/\r=bT c:=by refine aB Try.func77 rfl rfl (ak 1 rfl (wT 2 [] 2 2 [] [(2,(.bool false))] rfl fun _=>wT 1 [] 2 20 [] [(2,(.bool ((((decide ((97:Int)<=(c.toNat:Int)))&&(decide ((c.toNat:Int)<=122)))||((decide ((65:Int)<=(c.toNat:Int)))&&(decide ((c.toNat:Int)<=90))))||((c.toNat:Int)==95))))] rfl fun _=>aj ⟨.inr rfl,_,rfl,((((decide ((97:Int)<=(c.toNat:Int)))&&(decide ((c.toNat:Int)<=122)))||((decide ((65:Int)<=(c.toNat:Int)))&&(decide ((c.toNat:Int)<=90))))||((c.toNat:Int)==95)),rfl,rfl,(by simp[bT];grind)⟩))
theorem isLetter_c_q(c:UInt8)(H:Heap):kKt ex 77 [(.int .u8 (c.toNat:Int))] H fun v H'=>v=(.bool (bT c))/\H'=H:=
 cq (isLetter_c ex c H) (by rintro _ _ ⟨_,rfl,rfl,rfl⟩;exact⟨rfl,rfl⟩)
theorem isDigit_c(c:UInt8)(H:Heap):kKt ex 53 [(.int .u8 (c.toNat:Int))] H fun v H'=> ∃(r:Bool),H'=H/\v= .bool r/\r=bu c:=by refine aB Try.func53 rfl rfl (ak 1 rfl (wT 2 [] 2 2 [] [(2,(.bool false))] rfl fun _=>wT 1 [] 2 8 [] [(2,(.bool ((decide ((48:Int)<=(c.toNat:Int)))&&(decide ((c.toNat:Int)<=57)))))] rfl fun _=>aj ⟨.inr rfl,_,rfl,((decide ((48:Int)<=(c.toNat:Int)))&&(decide ((c.toNat:Int)<=57))),rfl,rfl,(by simp[bu];grind)⟩))
theorem gY(c:UInt8)(H:Heap):kKt ex 53 [(.int .u8 (c.toNat:Int))] H fun v H'=>v=(.bool (bu c))/\H'=H:=
 cq (isDigit_c ex c H) (by rintro _ _ ⟨_,rfl,rfl,rfl⟩;exact⟨rfl,rfl⟩)
theorem wordLen_c(s:List UInt8)(H:Heap)(hl:s.length<4611686018427387904):kKt ex 51 [(tX s)] H fun v H'=> ∃(r:Nat),H'=H/\v=iI (r:Int)/\r=aZ s:=by
 refine aB Try.func51 rfl rfl (ak 1 rfl (wT 2 [] 2 2 [] [(2,(iI 0))] rfl fun _=>wT 3 [] 1 0 [3] [(3,(iI 0))] rfl fun _=>av (fun(h:Nat) f H'=> ∃(n:Nat),H'=H/\aQ f [(0,(tX s)),(3,(iI (n:Int)))]/\h=s.length-n/\(n<=s.length)/\((s.take n).all bF=true)) _ ⟨0,rfl,⟨rfl,rfl,trivial⟩,rfl,(by omega),(by rfl)⟩ ?_));rintro a1 f3 H ⟨n,rfl,T,rfl,h1,Y⟩ Z;refine aE _ T (fun _=>?_);clear T;refine ak 2 rfl ?_;have an:=eT (s.getD n 0);have ax:=eT (s.getD n 0);refine wR 1 [(8,.o (.bool (bT (s.getD n 0)))),(13,.o (.bool (bu (s.getD n 0))))] 4 19 [] [(19,(.bool ((decide ((n:Int)<(s.length:Int)))&&(bT (s.getD n 0)||bu (s.getD n 0)))))] (vA (fun(E:(decide ((n:Int)<(s.length:Int)))=true)=>(vA (show(0:Int)<=(n:Int) from by(try simp only[BS]at E);omega) (show(n:Int)<(((s:List UInt8).length:Nat):Int) from by(try simp only[BS]at E);omega))) (vA (fun(E:(decide ((n:Int)<(s.length:Int)))=true)=>(isLetter_c_q ex (s.getD n 0) H)) (vA (fun(E:(bT (s.getD n 0))=false) (U:(decide ((n:Int)<(s.length:Int)))=true)=>(vA (show(0:Int)<=(n:Int) from by(try simp only[BS]at E U);omega) (show(n:Int)<(((s:List UInt8).length:Nat):Int) from by(try simp only[BS]at E U);omega))) (vA (fun(E:(bT (s.getD n 0))=false) (U:(decide ((n:Int)<(s.length:Int)))=true)=>(gY ex (s.getD n 0) H)) trivial)))) rfl fun _=>zi 2 5 (fun O=>?_) fun O=>?_
 ·try simp only[BS]at O
  have c:=O;refine wU 2 [] 20 21 [3] [(3,(iI ((n:Int)+1)))] (vi (n:=(n:Int)+1)) rfl fun _=>?_
  refine Z _ _ _ ?_ ⟨n+1,rfl,⟨rfl,rfl,trivial⟩,rfl,(by omega),(by rw[iq (by omega),Y,bF];simpa using c.2)⟩;omega
 try simp only[BS]at O
 have c:=O;refine wT 1 [] 2 2 [22] [(2,(iI (n:Int)))] rfl fun _=>aj ⟨.inr rfl,_,rfl,n,rfl,rfl,(iR h1 Y (fun hn=>by have:=c (by omega);rw[bF,this.1,this.2];rfl))⟩
theorem wordLen_c_q(s:List UInt8)(H:Heap)(h:s.length<4611686018427387904):kKt ex 51 [(tX s)] H fun v H'=>v=(iI ((aZ s:Nat):Int))/\H'=H:=
 cq (wordLen_c ex s H h) (by rintro _ _ ⟨_,rfl,rfl,rfl⟩;exact⟨rfl,rfl⟩)
theorem validNum_c(s:List UInt8)(H:Heap)(hl:s.length<4611686018427387904)(h0:0<s.length):kKt ex 54 [(tX s)] H fun v H'=> ∃(r:Bool),H'=H/\v= .bool r/\r=cJ s:=by
 refine aB Try.func54 rfl rfl (ak 1 rfl (wT 3 [] 2 2 [] [(2,(.bool false))] rfl fun _=>wT 2 [] 1 0 [3] [(3,(iI 0))] rfl fun _=>av (fun(mm:Nat) f H'=> ∃(i:Nat),H'=H/\aQ f [(0,(tX s)),(3,(iI (i:Int)))]/\mm=s.length-i/\(i<=s.length)/\((s.take i).all bu=true)) _ ⟨0,rfl,⟨rfl,rfl,trivial⟩,rfl,(by omega),(by rfl)⟩ ?_));rintro an f3 H ⟨i,rfl,O,rfl,h1,U⟩ Y;refine aE _ O (fun _=>?_);clear O;refine ak 2 rfl (wT 1 [] 4 7 [] [(7,(.bool (decide ((i:Int)<(s.length:Int)))))] rfl fun _=>zd 4 5 (fun T=>?_) fun T=>?_)
 ·have h:=T;have al:=eT (s.getD i 0);refine wR 1 [(3,.o (.bool (bu (s.getD i 0))))] 10 14 [] [(14,(.bool (!(bu (s.getD i 0)))))] (vA (vA (show(0:Int)<=(i:Int) from by omega) (show(i:Int)<(((s:List UInt8).length:Nat):Int) from by omega)) (vA (gY ex (s.getD i 0) H) trivial)) rfl fun _=>zi 1 2 (fun E=>?_) fun E=>?_
  ·try simp only[BS]at E
   have c:=E;refine wT 1 [] 2 2 [] [(2,(.bool false))] rfl fun _=>aj ⟨.inr rfl,_,rfl,false,rfl,rfl,(vn1 (by omega) c)⟩
  try simp only[BS]at E
  have c:=E;refine wU 1 [] 8 9 [3] [(3,(iI ((i:Int)+1)))] (vi (n:=(i:Int)+1)) rfl fun _=>?_
  refine Y _ _ _ ?_ ⟨i+1,rfl,⟨rfl,rfl,trivial⟩,rfl,(by omega),(by rw[iq (by omega),U,c];rfl)⟩;omega
 have h:=T;have Z:=eT (s.getD 0 0);refine wU 1 [] 15 36 [2] [(2,(.bool (((((s.getD 0 0).toNat:Int) !=48)||((s.length:Int)==1))&&((decide ((s.length:Int)<19))||(((s.length:Int)==19)&&(Op.bytesLess s [57,50,50,51,51,55,50,48,51,54,56,53,52,55,55,53,56,48,56]||s==([57,50,50,51,51,55,50,48,51,54,56,53,52,55,55,53,56,48,56]:List UInt8)))))))] (vA (show(0:Int)<=0 from by omega) (show(0:Int)<(((s:List UInt8).length:Nat):Int) from by omega)) rfl fun _=>aj ⟨.inr rfl,_,rfl,(((((s.getD 0 0).toNat:Int) !=48)||((s.length:Int)==1))&&((decide ((s.length:Int)<19))||(((s.length:Int)==19)&&(Op.bytesLess s [57,50,50,51,51,55,50,48,51,54,56,53,52,55,55,53,56,48,56]||s==([57,50,50,51,51,55,50,48,51,54,56,53,52,55,55,53,56,48,56]:List UInt8))))),rfl,rfl,(vn2 (all_of_take (by omega) U))⟩
theorem validNum_c_q(s:List UInt8)(H:Heap)(h:s.length<4611686018427387904)(E:0<s.length):kKt ex 54 [(tX s)] H fun v H'=>v=(.bool (cJ s))/\H'=H:=
 cq (validNum_c ex s H h E) (by rintro _ _ ⟨_,rfl,rfl,rfl⟩;exact⟨rfl,rfl⟩)
theorem symLen_c(s:List UInt8)(H:Heap)(h0:0<s.length):kKt ex 52 [(tX s)] H fun v H'=> ∃(r:Nat),H'=H/\v=iI (r:Int)/\r=bL s:=by
 refine aB Try.func52 rfl rfl (ak 1 rfl (wT 3 [] 2 2 [] [(2,(iI 0))] rfl fun _=>wT 2 [] 6 7 [] [(6,(aG [(tX [62,62,62]),(tX [60,60]),(tX [62,62]),(tX [60,61]),(tX [62,61]),(tX [61,61]),(tX [33,61])])),(7,(iI 0))] rfl fun _=>bZ (ak 1 rfl ?_)));refine wT 2 [] 8 8 [] [(8,(.bool true))] rfl fun _=>bR 4 (v:=true) rfl rfl rfl rfl (wT 2 [] 9 9 [4] [(4,(tX [62,62,62]))] rfl fun _=>wU 1 [] 10 22 [] [(22,(.bool ((decide ((3:Int)<=(s.length:Int)))&&((s.take 3)==([62,62,62]:List UInt8)))))] (fun(E:(decide ((3:Int)<=(s.length:Int)))=true)=>(vA (show(0:Int)<=3 from by(try simp only[BS]at E);(first|omega|(show _<23;omega))) (show(3:Int)<=(((s:List UInt8).length:Nat):Int) from by(try simp only[BS]at E);(first|omega|(show _<23;omega))))) rfl fun _=>zi 1 2 (fun c6=>?_) fun c6=>?_)
 ·try simp only[BS]at c6
  have h:=(c6).2;refine wT 1 [] 23 24 [2] [(2,(iI 3))] rfl fun _=>aj ⟨.inr rfl,_,rfl,3,rfl,rfl,(by simp only[bL, *,↓reduceIte,true_or,or_true])⟩
 try simp only[BS]at c6
 first|have h:=tk3 c6|have h:=tk2 c6
 refine wU 1 [] 7 7 [25] [(7,(iI 1))] (vi (n:=(1:Int))) rfl fun _=>bZ (ak 1 rfl (wT 2 [] 8 8 [] [(8,(.bool true))] rfl fun _=>bR 4 (v:=true) rfl rfl rfl rfl (wT 2 [] 9 9 [4] [(4,(tX [60,60]))] rfl fun _=>?_)))
 refine wU 1 [] 10 22 [] [(22,(.bool ((decide ((2:Int)<=(s.length:Int)))&&((s.take 2)==([60,60]:List UInt8)))))] (fun(E:(decide ((2:Int)<=(s.length:Int)))=true)=>(vA (show(0:Int)<=2 from by(try simp only[BS]at E);(first|omega|(show _<23;omega))) (show(2:Int)<=(((s:List UInt8).length:Nat):Int) from by(try simp only[BS]at E);(first|omega|(show _<23;omega))))) rfl fun _=>zi 1 2 (fun O=>?_) fun O=>?_
 ·try simp only[BS]at O
  have h:=(O).2;refine wT 1 [] 23 24 [2] [(2,(iI 2))] rfl fun _=>aj ⟨.inr rfl,_,rfl,2,rfl,rfl,(by simp only[bL, *,↓reduceIte,true_or,or_true])⟩
 try simp only[BS]at O
 first|have h:=tk3 O|have h:=tk2 O
 refine wU 1 [] 7 7 [25] [(7,(iI 2))] (vi (n:=(2:Int))) rfl fun _=>bZ (ak 1 rfl (wT 2 [] 8 8 [] [(8,(.bool true))] rfl fun _=>bR 4 (v:=true) rfl rfl rfl rfl (wT 2 [] 9 9 [4] [(4,(tX [62,62]))] rfl fun _=>?_)))
 refine wU 1 [] 10 22 [] [(22,(.bool ((decide ((2:Int)<=(s.length:Int)))&&((s.take 2)==([62,62]:List UInt8)))))] (fun(E:(decide ((2:Int)<=(s.length:Int)))=true)=>(vA (show(0:Int)<=2 from by(try simp only[BS]at E);(first|omega|(show _<23;omega))) (show(2:Int)<=(((s:List UInt8).length:Nat):Int) from by(try simp only[BS]at E);(first|omega|(show _<23;omega))))) rfl fun _=>zi 1 2 (fun T=>?_) fun T=>?_
 ·try simp only[BS]at T
  have h:=(T).2;refine wT 1 [] 23 24 [2] [(2,(iI 2))] rfl fun _=>aj ⟨.inr rfl,_,rfl,2,rfl,rfl,(by simp only[bL, *,↓reduceIte,true_or,or_true])⟩
 try simp only[BS]at T
 first|have h:=tk3 T|have h:=tk2 T
 refine wU 1 [] 7 7 [25] [(7,(iI 3))] (vi (n:=(3:Int))) rfl fun _=>bZ (ak 1 rfl (wT 2 [] 8 8 [] [(8,(.bool true))] rfl fun _=>bR 4 (v:=true) rfl rfl rfl rfl (wT 2 [] 9 9 [4] [(4,(tX [60,61]))] rfl fun _=>?_)))
 refine wU 1 [] 10 22 [] [(22,(.bool ((decide ((2:Int)<=(s.length:Int)))&&((s.take 2)==([60,61]:List UInt8)))))] (fun(E:(decide ((2:Int)<=(s.length:Int)))=true)=>(vA (show(0:Int)<=2 from by(try simp only[BS]at E);(first|omega|(show _<23;omega))) (show(2:Int)<=(((s:List UInt8).length:Nat):Int) from by(try simp only[BS]at E);(first|omega|(show _<23;omega))))) rfl fun _=>zi 1 2 (fun U=>?_) fun U=>?_
 ·try simp only[BS]at U
  have h:=(U).2;refine wT 1 [] 23 24 [2] [(2,(iI 2))] rfl fun _=>aj ⟨.inr rfl,_,rfl,2,rfl,rfl,(by simp only[bL, *,↓reduceIte,true_or,or_true])⟩
 try simp only[BS]at U
 first|have h:=tk3 U|have h:=tk2 U
 refine wU 1 [] 7 7 [25] [(7,(iI 4))] (vi (n:=(4:Int))) rfl fun _=>bZ (ak 1 rfl (wT 2 [] 8 8 [] [(8,(.bool true))] rfl fun _=>bR 4 (v:=true) rfl rfl rfl rfl (wT 2 [] 9 9 [4] [(4,(tX [62,61]))] rfl fun _=>?_)))
 refine wU 1 [] 10 22 [] [(22,(.bool ((decide ((2:Int)<=(s.length:Int)))&&((s.take 2)==([62,61]:List UInt8)))))] (fun(E:(decide ((2:Int)<=(s.length:Int)))=true)=>(vA (show(0:Int)<=2 from by(try simp only[BS]at E);(first|omega|(show _<23;omega))) (show(2:Int)<=(((s:List UInt8).length:Nat):Int) from by(try simp only[BS]at E);(first|omega|(show _<23;omega))))) rfl fun _=>zi 1 2 (fun Y=>?_) fun Y=>?_
 ·try simp only[BS]at Y
  have h:=(Y).2;refine wT 1 [] 23 24 [2] [(2,(iI 2))] rfl fun _=>aj ⟨.inr rfl,_,rfl,2,rfl,rfl,(by simp only[bL, *,↓reduceIte,true_or,or_true])⟩
 try simp only[BS]at Y
 first|have h:=tk3 Y|have h:=tk2 Y
 refine wU 1 [] 7 7 [25] [(7,(iI 5))] (vi (n:=(5:Int))) rfl fun _=>bZ (ak 1 rfl (wT 2 [] 8 8 [] [(8,(.bool true))] rfl fun _=>bR 4 (v:=true) rfl rfl rfl rfl (wT 2 [] 9 9 [4] [(4,(tX [61,61]))] rfl fun _=>?_)))
 refine wU 1 [] 10 22 [] [(22,(.bool ((decide ((2:Int)<=(s.length:Int)))&&((s.take 2)==([61,61]:List UInt8)))))] (fun(E:(decide ((2:Int)<=(s.length:Int)))=true)=>(vA (show(0:Int)<=2 from by(try simp only[BS]at E);(first|omega|(show _<23;omega))) (show(2:Int)<=(((s:List UInt8).length:Nat):Int) from by(try simp only[BS]at E);(first|omega|(show _<23;omega))))) rfl fun _=>zi 1 2 (fun Z=>?_) fun Z=>?_
 ·try simp only[BS]at Z
  have h:=(Z).2;refine wT 1 [] 23 24 [2] [(2,(iI 2))] rfl fun _=>aj ⟨.inr rfl,_,rfl,2,rfl,rfl,(by simp only[bL, *,↓reduceIte,true_or,or_true])⟩
 try simp only[BS]at Z
 first|have h:=tk3 Z|have h:=tk2 Z
 refine wU 1 [] 7 7 [25] [(7,(iI 6))] (vi (n:=(6:Int))) rfl fun _=>bZ (ak 1 rfl (wT 2 [] 8 8 [] [(8,(.bool true))] rfl fun _=>bR 4 (v:=true) rfl rfl rfl rfl (wT 2 [] 9 9 [4] [(4,(tX [33,61]))] rfl fun _=>?_)))
 refine wU 1 [] 10 22 [] [(22,(.bool ((decide ((2:Int)<=(s.length:Int)))&&((s.take 2)==([33,61]:List UInt8)))))] (fun(E:(decide ((2:Int)<=(s.length:Int)))=true)=>(vA (show(0:Int)<=2 from by(try simp only[BS]at E);(first|omega|(show _<23;omega))) (show(2:Int)<=(((s:List UInt8).length:Nat):Int) from by(try simp only[BS]at E);(first|omega|(show _<23;omega))))) rfl fun _=>zi 1 2 (fun al=>?_) fun al=>?_
 ·try simp only[BS]at al
  have h:=(al).2;refine wT 1 [] 23 24 [2] [(2,(iI 2))] rfl fun _=>aj ⟨.inr rfl,_,rfl,2,rfl,rfl,(by simp only[bL, *,↓reduceIte,true_or,or_true])⟩
 try simp only[BS]at al
 first|have h:=tk3 al|have h:=tk2 al
 refine wU 1 [] 7 7 [25] [(7,(iI 7))] (vi (n:=(7:Int))) rfl fun _=>bZ (ak 1 rfl (wT 2 [] 8 8 [] [(8,(.bool false))] rfl fun _=>iP 6 (v:=false) rfl rfl rfl rfl (wT 2 [] 1 0 [5] [(5,(iI 0))] rfl fun _=>?_)))
 refine av (fun(mm:Nat) f H'=> ∃(i:Nat),H'=H/\aQ f [(0,(tX s)),(5,(iI (i:Int)))]/\mm=23-i/\(i<=23)/\(∀j,j<i->s.getD 0 0≠dr.getD j 0)) _ ⟨0,rfl,⟨rfl,rfl,trivial⟩,rfl,(by omega),(by intro j hj;omega)⟩ ?_;rintro a7 a8 H ⟨i,rfl,a1,rfl,h1,h2⟩ a2;refine aE _ a1 (fun _=>?_);clear a1;refine ak 2 rfl (wT 1 [] 26 27 [] [(27,(.bool (decide ((i:Int)<23))))] rfl fun _=>zd 4 5 (fun a3=>?_) fun a3=>?_)
 ·have a5:=eT (s.getD 0 0);have a6:=eT (([43,45,42,47,37,38,124,94,126,33,60,62,61,63,58,59,44,40,41,123,125,91,93]:List UInt8).getD i 0);refine wRD 1 [] 30 34 [] [(34,(.bool (((s.getD 0 0).toNat:Int)==((([43,45,42,47,37,38,124,94,126,33,60,62,61,63,58,59,44,40,41,123,125,91,93]:List UInt8).getD i 0).toNat:Int))))] (vA (vA (show(0:Int)<=0 from by omega) (show(0:Int)<(((s:List UInt8).length:Nat):Int) from by omega)) (vA (vA (show(0:Int)<=(i:Int) from by omega) (show(i:Int)<((([43,45,42,47,37,38,124,94,126,33,60,62,61,63,58,59,44,40,41,123,125,91,93]:List UInt8).length:Nat):Int) from by omega)) trivial)) rfl rfl fun _=>zi 1 2 (fun an=>?_) fun an=>?_
  ·try simp only[BS]at an
   have ci:=an;refine wT 1 [] 2 2 [] [(2,(iI 1))] rfl fun _=>aj ⟨.inr rfl,_,rfl,1,rfl,rfl,(by have ms:=sing_mem (by omega) ci;simp only[bL, *,↓reduceIte,or_self])⟩
  try simp only[BS]at an
  have ci:=an;refine wU 1 [] 28 29 [5] [(5,(iI ((i:Int)+1)))] (vi (n:=(i:Int)+1)) rfl fun _=>?_
  refine a2 _ _ _ ?_ ⟨i+1,rfl,⟨rfl,rfl,trivial⟩,rfl,(by omega),(fun j hj=>sing_ne ci h2 hj)⟩;omega
 refine wT 1 [] 2 2 [] [(2,(iI 0))] rfl fun _=>aj ⟨.inr rfl,_,rfl,0,rfl,rfl,(by have ms:=sing_no (fun j hj=>h2 j (by omega));simp only[bL, *,↓reduceIte,or_self])⟩
theorem symLen_c_q(s:List UInt8)(H:Heap)(E:0<s.length):kKt ex 52 [(tX s)] H fun v H'=>v=(iI ((bL s:Nat):Int))/\H'=H:=
 cq (symLen_c ex s H E) (by rintro _ _ ⟨_,rfl,rfl,rfl⟩;exact⟨rfl,rfl⟩)
def spl:Bool->List UInt8->Nat
 |_,[]=>0
 |false,c::s=>if c=32\/c=9\/c=10\/c=13 then 1+spl false s else if c=35 then 1+spl true s else 0
 |true,c::s=>if c=10 then 1+spl false s else 1+spl true s
theorem kS: ∀(s:List UInt8) (b:Bool),spl b s<=s.length
 | [],b=>by simp[spl]
 |c::s,false=>by
  have E:=kS s false;have O:=kS s true
  rw[spl,a01];split
  ·omega
  split<;>omega
 |c::s,true=>by
  have E:=kS s false;have O:=kS s true
  rw[spl,a01];split<;>omega
theorem dropc{s:List UInt8}{n:Nat}(h:n<s.length):s.drop n=s.getD n 0::s.drop (n+1):=by rw[a0F h,a0a,a09 h];rfl
theorem u8i{c:UInt8}{k:Nat}(E:k<256)(h:(c.toNat:Int)=(k:Int)):c=UInt8.ofNat k:=by apply UInt8.toNat_inj.mp;rw[UInt8.toNat_ofNat'];omega
theorem u8e{c:UInt8}(k:Nat)(h:c=UInt8.ofNat k)(E:k<256:=by omega):(c.toNat:Int)=(k:Int):=by rw[h,UInt8.toNat_ofNat'];omega
theorem spE{b:Bool}{s:List UInt8}{n:Nat}(h: ¬n<s.length)(E:n<=s.length)(e:n+spl b (s.drop n)=spl false s):n=spl false s:=by rw[List.drop_of_length_le (by omega)]at e;simpa[spl] using e
theorem spA{s:List UInt8}{n:Nat}(h:n<s.length)(c:s.getD n 0=32\/s.getD n 0=9\/s.getD n 0=10\/s.getD n 0=13)(e:n+spl false (s.drop n)=spl false s):n+1+spl false (s.drop (n+1))=spl false s:=by rw[dropc h,spl,if_pos c]at e;omega
theorem spH{s:List UInt8}{n:Nat}(h:n<s.length)(c:s.getD n 0=35)(e:n+spl false (s.drop n)=spl false s):n+spl true (s.drop n)=spl false s:=by rw[dropc h,spl,if_neg (by rw[c];decide),if_pos c]at e;rw[dropc h,spl,if_neg (by rw[c];decide)];exact e
theorem spT{s:List UInt8}{n:Nat}(h:n<s.length)(c:s.getD n 0≠10)(e:n+spl true (s.drop n)=spl false s):n+1+spl true (s.drop (n+1))=spl false s:=by rw[dropc h,spl,if_neg c]at e;omega
theorem spN{s:List UInt8}{n:Nat}(E:n<=s.length)(c:n<s.length->s.getD n 0=10)(e:n+spl true (s.drop n)=spl false s):n+spl false (s.drop n)=spl false s:=by
 by_cases h:n<s.length
 ·rw[dropc h,spl,if_pos (c h)]at e;rw[dropc h,spl,if_pos (.inr (.inr (.inl (c h))))];exact e
 rw[List.drop_of_length_le (by omega)]at e⊢;exact e
theorem spX{s:List UInt8}{n:Nat}(h:n<s.length)(c: ¬(s.getD n 0=32\/s.getD n 0=9\/s.getD n 0=10\/s.getD n 0=13))(c2:s.getD n 0≠35)(e:n+spl false (s.drop n)=spl false s):n=spl false s:=by rw[dropc h,spl,if_neg c,if_neg c2]at e;exact e
theorem spaceLen_c(s:List UInt8)(H:Heap)(hl:s.length<4611686018427387904):kKt ex 22 [(tX s)] H fun v H'=> ∃(r:Nat),H'=H/\v=iI (r:Int)/\r=spl false s:=by
 refine aB Try.func22 rfl rfl (ak 1 rfl (wT 2 [] 2 2 [] [(2,(iI 0))] rfl fun _=>wT 3 [] 1 0 [3] [(3,(iI 0))] rfl fun _=>av (fun(mm:Nat) f H'=> ∃(n:Nat),H'=H/\aQ f [(0,(tX s)),(3,(iI (n:Int)))]/\mm=s.length-n/\(n<=s.length)/\(n+spl false (s.drop n)=spl false s)) _ ⟨0,rfl,⟨rfl,rfl,trivial⟩,rfl,(by omega),(by simp)⟩ ?_));rintro b3 f3 H ⟨n,rfl,a4,rfl,h1,U⟩ T;refine aE _ a4 (fun _=>?_);clear a4;refine ak 2 rfl (wT 1 [] 4 7 [] [(7,(.bool (decide ((n:Int)<(s.length:Int)))))] rfl fun _=>zd 3 5 (fun c5=>?_) fun c5=>?_)
 ·have b1:=eT (s.getD n 0);refine wU 4 [] 8 10 [] [(10,(.int .u8 ((s.getD n 0).toNat:Int)))] (vA (show(0:Int)<=(n:Int) from by omega) (show(n:Int)<(((s:List UInt8).length:Nat):Int) from by omega)) rfl fun _=>wT 1 [] 12 13 [] [(12,(.bool (((s.getD n 0).toNat:Int)==32)))] rfl fun _=>zi 1 1 (fun Y=>?_) fun Y=>?_
  ·have c9:=Y;try simp only[BS]at c9
   refine bR 0 (v:=(((s.getD n 0).toNat:Int)==32)) rfl Y rfl rfl (wU 3 [] 17 18 [3] [(3,(iI ((n:Int)+1)))] (vi (n:=(n:Int)+1)) rfl fun _=>?_);refine T _ _ _ ?_ ⟨n+1,rfl,⟨rfl,rfl,trivial⟩,rfl,(by omega),(spA (by omega) (.inl (u8i (k:=32) (by omega) (by omega))) U)⟩;omega
  have c9:=Y;try simp only[BS]at c9
  refine wT 1 [] 12 14 [] [(12,(.bool (((s.getD n 0).toNat:Int)==9)))] rfl fun _=>zi 1 1 (fun E=>?_) fun E=>?_
  ·have Z:=E;try simp only[BS]at Z
   refine bR 0 (v:=(((s.getD n 0).toNat:Int)==9)) rfl E rfl rfl (wU 3 [] 17 18 [3] [(3,(iI ((n:Int)+1)))] (vi (n:=(n:Int)+1)) rfl fun _=>?_);refine T _ _ _ ?_ ⟨n+1,rfl,⟨rfl,rfl,trivial⟩,rfl,(by omega),(spA (by omega) (.inr (.inl (u8i (k:=9) (by omega) (by omega)))) U)⟩;omega
  have Z:=E;try simp only[BS]at Z
  refine wT 1 [] 12 15 [] [(12,(.bool (((s.getD n 0).toNat:Int)==10)))] rfl fun _=>zi 1 0 (fun O=>?_) fun O=>?_
  ·have al:=O;try simp only[BS]at al
   refine bR 0 (v:=(((s.getD n 0).toNat:Int)==10)) rfl O rfl rfl (wU 3 [] 17 18 [3] [(3,(iI ((n:Int)+1)))] (vi (n:=(n:Int)+1)) rfl fun _=>?_);refine T _ _ _ ?_ ⟨n+1,rfl,⟨rfl,rfl,trivial⟩,rfl,(by omega),(spA (by omega) (.inr (.inr (.inl (u8i (k:=10) (by omega) (by omega))))) U)⟩;omega
  have al:=O;try simp only[BS]at al
  refine wT 1 [] 12 16 [] [(12,(.bool (((s.getD n 0).toNat:Int)==13)))] rfl fun _=>zi 0 1 (fun an=>?_) fun an=>?_
  ·try simp only[BS]at an
   refine wU 3 [] 17 18 [3] [(3,(iI ((n:Int)+1)))] (vi (n:=(n:Int)+1)) rfl fun _=>?_
   refine T _ _ _ ?_ ⟨n+1,rfl,⟨rfl,rfl,trivial⟩,rfl,(by omega),(spA (by omega) (.inr (.inr (.inr (u8i (k:=13) (by omega) (by omega))))) U)⟩;omega
  try simp only[BS]at an
  refine wT 1 [] 19 20 [] [(19,(.bool (((s.getD n 0).toNat:Int)==35)))] rfl fun _=>zi 1 1 (fun ax=>?_) fun ax=>?_
  ·try simp only[BS]at ax
   refine av (fun(mm:Nat) f H'=> ∃(m:Nat),H'=H/\aQ f [(0,(tX s)),(3,(iI (m:Int)))]/\mm=s.length-m/\(m<=s.length)/\(m+spl true (s.drop m)=spl false s)/\(n<=m)) _ ⟨n,rfl,⟨rfl,rfl,trivial⟩,rfl,(by omega),(spH (by omega) (u8i (k:=35) (by omega) (by omega)) U),(by omega)⟩ ?_;rintro b0 b2 H ⟨m,rfl,a2,rfl,g1,g2,g3⟩ a6;refine aE _ a2 (fun _=>?_);clear a2;refine ak 2 rfl ?_;have a8:=eT (s.getD m 0);refine wU 1 [] 21 30 [] [(30,(.bool ((decide ((m:Int)<(s.length:Int)))&&(((s.getD m 0).toNat:Int) !=10))))] (fun(g1:(decide ((m:Int)<(s.length:Int)))=true)=>(vA (show(0:Int)<=(m:Int) from by(try simp only[BS]at g1);omega) (show(m:Int)<(((s:List UInt8).length:Nat):Int) from by(try simp only[BS]at g1);omega))) rfl fun _=>zi 2 6 (fun a1=>?_) fun a1=>?_
   ·try simp only[BS]at a1
    refine wU 2 [] 31 32 [3] [(3,(iI ((m:Int)+1)))] (vi (n:=(m:Int)+1)) rfl fun _=>?_
    refine a6 _ _ _ ?_ ⟨m+1,rfl,⟨rfl,rfl,trivial⟩,rfl,(by omega),(spT (by omega) (fun h=>by have:=u8e 10 h;omega) g2),(by omega)⟩;omega
   try simp only[BS]at a1
   have gm:n<m:=by
    rcases a0k n m with h|h
    ·exact h
    exfalso;have e:m=n:=by omega
    subst e;omega
   refine T _ _ _ ?_ ⟨m,rfl,⟨rfl,rfl,trivial⟩,rfl,(by omega),(spN g1 (fun h=>(u8i (k:=10) (by omega) (by omega))) g2)⟩;omega
  try simp only[BS]at ax
  refine wT 1 [] 2 2 [11] [(2,(iI (n:Int)))] rfl fun _=>aj ⟨.inr rfl,_,rfl,n,rfl,rfl,(by exact spX (by omega) (by rintro(h|h|h|h)<;>(first|(have:=u8e 32 h;omega)|(have:=u8e 9 h;omega)|(have:=u8e 10 h;omega)|(have:=u8e 13 h;omega))) (fun h=>by have:=u8e 35 h;omega) U)⟩
 refine wT 1 [] 2 2 [33] [(2,(iI (n:Int)))] rfl fun _=>aj ⟨.inr rfl,_,rfl,n,rfl,rfl,(spE (by omega) h1 U)⟩
theorem iT(s:List UInt8)(H:Heap)(h:s.length<4611686018427387904):kKt ex 22 [(tX s)] H fun v H'=>v=(iI ((spl false s:Nat):Int))/\H'=H:=
 cq (spaceLen_c ex s H h) (by rintro _ _ ⟨_,rfl,rfl,rfl⟩;exact⟨rfl,rfl⟩)
def ay(s:List UInt8):Int×List UInt8×Int:=
 if aZ s=0 then(if bL s=0 then(0,[],2) else(3,s.take (bL s),0))
 else if bu (s.getD 0 0)=true then(if cJ (s.take (aZ s))=true then(2,s.take (aZ s),0) else(0,[],2))
 else if 16<aZ s then(0,[],6) else(1,s.take (aZ s),0)
theorem symLen_le{s:List UInt8}(O:0<s.length):bL s<=s.length:=by
 have E: ∀{w:List UInt8} {n:Nat},s.take n=w->w.length=n->n<=s.length:=by intro w n e T;have:=congrArg List.length e;rw[a0I]at this;omega
 rw[bL];split
 ·exact E ‹_› rfl
 split
 ·rename_i h;rcases h with h|h|h|h|h|h<;>exact E h rfl
 split<;>omega
theorem first_c(s:List UInt8)(hs:HS (.of H []) F H [] R)(h0:0<s.length)(hl:s.length<4611686018427387904):kKt ex 23 [(tX s)] H fun v H'=> ∃(t:Token) (e:Int) (F':Fz),Fz.le F F'/\HS (.of H []) F' H' [] R/\v= .tuple ⟨[.agg ⟨[iI t.kind,tX t.text.b,iI t.at_]⟩,iI e]⟩/\in64 t.kind/\in64 t.at_/\t=Token.mk (ay s).1 (Str.mk (ay s).2.1) 0/\e=(ay s).2.2:=by
 have hw:=kN s;have hy:=symLen_le h0;refine aB Try.func23 rfl rfl (ak 1 rfl (ab (aJ (aR hs rfl) rfl rfl ?_)));rintro _ H2 _ ⟨b1,rfl,(E:HS _ _ _ [(fP b1 [(iI 0),(tX []),(iI 0)])] _),_⟩;refine za (iI 0) (ai 2 rfl (wU 4 [(1,.o (iI ((aZ s:Nat):Int)))] 5 6 [4] [(4,(iI ((aZ s:Nat):Int)))] (wordLen_c_q ex s H2 (by omega)) rfl fun _=>wT 1 [] 7 9 [] [(7,(.bool (((aZ s:Nat):Int)==0)))] rfl fun _=>zi 2 1 (fun h=>?_) fun h=>?_))
 ·try simp only[BS]at h
  have z0:aZ s=0:=by omega
  refine wU 2 [(1,.o (iI ((bL s:Nat):Int)))] 10 11 [4] [(4,(iI ((bL s:Nat):Int)))] (symLen_c_q ex s H2 (by omega)) rfl fun _=>wT 1 [] 12 13 [] [(13,(.bool (((bL s:Nat):Int)==0)))] rfl fun _=>zi 1 2 (fun c8=>?_) fun c8=>?_
  ·try simp only[BS]at c8
   have z1:bL s=0:=by omega
   refine ab (wTo 1 0 [] 14 14 [] [(14,(aG [(iI 0),(tX []),(iI 0)]))] rfl fun _=>aH (aq (q:=0) E rfl rfl rfl rfl rfl rfl rfl rfl rfl) rfl ?_);rintro _ b3 _ ⟨(U:HS _ _ _ [_] _),_⟩;refine za (iI 2) (ai 1 rfl (aj ⟨.inr rfl,_,(rC rfl (cY rfl rfl (HS.hc U (i:=0) rfl) rfl) (rT rfl rN)),(⟨0,⟨[]⟩,0⟩:Token),2,_,fR,(HS.forget U),rfl,(by(dsimp only;omega)),(by(dsimp only;omega)),(by simp only[ay, *,↓reduceIte,a0i,not_false_eq_true]),(by simp only[ay, *,↓reduceIte,a0i,not_false_eq_true])⟩))
  try simp only[BS]at c8
  have z1: ¬bL s=0:=by omega
  refine ab (wUo 4 0 [] 15 18 [] [(18,(aG [(iI 3),(tX (s.take (bL s))),(iI 0)]))] (vA (show(0:Int)<=((bL s:Nat):Int) from by omega) (show((bL s:Nat):Int)<=(((s:List UInt8).length:Nat):Int) from by omega)) rfl fun _=>aH (aq (q:=0) E rfl rfl rfl rfl rfl rfl rfl rfl rfl) rfl ?_);rintro _ b4 _ ⟨(Y:HS _ _ _ [(fP b1 [(iI 3),(tX (s.take (bL s))),(iI 0)])] _),_⟩;refine za (iI 0) (ai 1 rfl (aj ⟨.inr rfl,_,(rC rfl (cY rfl rfl (HS.hc Y (i:=0) rfl) rfl) (rT rfl rN)),(⟨3,⟨s.take (bL s)⟩,0⟩:Token),0,_,fR,(HS.forget Y),rfl,(by(dsimp only;omega)),(by(dsimp only;omega)),(by simp only[ay, *,↓reduceIte,a0i,not_false_eq_true]),(by simp only[ay, *,↓reduceIte,a0i,not_false_eq_true])⟩))
 try simp only[BS]at h
 have z0: ¬aZ s=0:=by omega
 have a6:=eT (s.getD 0 0);refine wR 1 [(2,.o (.bool (bu (s.getD 0 0))))] 19 22 [] [(19,(.bool (bu (s.getD 0 0))))] (vA (vA (show(0:Int)<=0 from by omega) (show(0:Int)<(((s:List UInt8).length:Nat):Int) from by omega)) (vA (gY ex (s.getD 0 0) H2) trivial)) rfl fun _=>zi 2 1 (fun O=>?_) fun O=>?_
 ·try simp only[BS]at O
  have z2:bu (s.getD 0 0)=true:=O;refine wR 1 [(3,.o (.bool (cJ (s.take (aZ s)))))] 23 27 [] [(27,(.bool (!(cJ (s.take (aZ s))))))] (vA (vA (show(0:Int)<=((aZ s:Nat):Int) from by omega) (show((aZ s:Nat):Int)<=(((s:List UInt8).length:Nat):Int) from by omega)) (vA (validNum_c_q ex (s.take (aZ s)) H2 (by(rw[a0I];omega)) (by(rw[a0I];omega))) trivial)) rfl fun _=>zi 1 2 (fun T=>?_) fun T=>?_
  ·try simp only[BS]at T
   have z3:cJ (s.take (aZ s))=false:=by simpa using T
   refine ab (wTo 1 0 [] 28 28 [] [(28,(aG [(iI 0),(tX []),(iI 0)]))] rfl fun _=>aH (aq (q:=0) E rfl rfl rfl rfl rfl rfl rfl rfl rfl) rfl ?_);rintro _ b5 _ ⟨(Z:HS _ _ _ [_] _),_⟩;refine za (iI 2) (ai 1 rfl (aj ⟨.inr rfl,_,(rC rfl (cY rfl rfl (HS.hc Z (i:=0) rfl) rfl) (rT rfl rN)),(⟨0,⟨[]⟩,0⟩:Token),2,_,fR,(HS.forget Z),rfl,(by(dsimp only;omega)),(by(dsimp only;omega)),(by simp only[ay, *,↓reduceIte,a0i,not_false_eq_true]),(by simp only[ay, *,↓reduceIte,a0i,not_false_eq_true])⟩))
  try simp only[BS]at T
  have z3:cJ (s.take (aZ s))=true:=by simpa using T
  refine ab (wUo 4 0 [] 29 32 [] [(32,(aG [(iI 2),(tX (s.take (aZ s))),(iI 0)]))] (vA (show(0:Int)<=((aZ s:Nat):Int) from by omega) (show((aZ s:Nat):Int)<=(((s:List UInt8).length:Nat):Int) from by omega)) rfl fun _=>aH (aq (q:=0) E rfl rfl rfl rfl rfl rfl rfl rfl rfl) rfl ?_);rintro _ b6 _ ⟨(al:HS _ _ _ [(fP b1 [(iI 2),(tX (s.take (aZ s))),(iI 0)])] _),_⟩;refine za (iI 0) (ai 1 rfl (aj ⟨.inr rfl,_,(rC rfl (cY rfl rfl (HS.hc al (i:=0) rfl) rfl) (rT rfl rN)),(⟨2,⟨s.take (aZ s)⟩,0⟩:Token),0,_,fR,(HS.forget al),rfl,(by(dsimp only;omega)),(by(dsimp only;omega)),(by simp only[ay, *,↓reduceIte,a0i,not_false_eq_true]),(by simp only[ay, *,↓reduceIte,a0i,not_false_eq_true])⟩))
 try simp only[BS]at O
 have z2:bu (s.getD 0 0)=false:=O;refine wT 1 [] 33 35 [] [(33,(.bool (decide ((16:Int)<((aZ s:Nat):Int)))))] rfl fun _=>zd 1 3 (fun a5=>?_) fun a5=>?_
 ·have z4:16<aZ s:=by omega
  refine ab (wTo 1 0 [] 36 36 [] [(36,(aG [(iI 0),(tX []),(iI 0)]))] rfl fun _=>aH (aq (q:=0) E rfl rfl rfl rfl rfl rfl rfl rfl rfl) rfl ?_);rintro _ b7 _ ⟨(an:HS _ _ _ [_] _),_⟩;refine za (iI 6) (ai 1 rfl (aj ⟨.inr rfl,_,(rC rfl (cY rfl rfl (HS.hc an (i:=0) rfl) rfl) (rT rfl rN)),(⟨0,⟨[]⟩,0⟩:Token),6,_,fR,(HS.forget an),rfl,(by(dsimp only;omega)),(by(dsimp only;omega)),(by simp only[ay, *,↓reduceIte,a0i,not_false_eq_true]),(by simp only[ay, *,↓reduceIte,a0i,not_false_eq_true])⟩))
 have z4: ¬16<aZ s:=by omega
 refine ab (wUo 4 0 [] 37 40 [] [(40,(aG [(iI 1),(tX (s.take (aZ s))),(iI 0)]))] (vA (show(0:Int)<=((aZ s:Nat):Int) from by omega) (show((aZ s:Nat):Int)<=(((s:List UInt8).length:Nat):Int) from by omega)) rfl fun _=>aH (aq (q:=0) E rfl rfl rfl rfl rfl rfl rfl rfl rfl) rfl ?_);rintro _ b8 _ ⟨(ax:HS _ _ _ [(fP b1 [(iI 1),(tX (s.take (aZ s))),(iI 0)])] _),_⟩;refine za (iI 0) (ai 1 rfl (aj ⟨.inr rfl,_,(rC rfl (cY rfl rfl (HS.hc ax (i:=0) rfl) rfl) (rT rfl rN)),(⟨1,⟨s.take (aZ s)⟩,0⟩:Token),0,_,fR,(HS.forget ax),rfl,(by(dsimp only;omega)),(by(dsimp only;omega)),(by simp only[ay, *,↓reduceIte,a0i,not_false_eq_true]),(by simp only[ay, *,↓reduceIte,a0i,not_false_eq_true])⟩))
theorem take_len{s:List UInt8}{n:Nat}(h:n<=s.length):(s.take n).length=n:=by rw[a0I];omega
theorem lh{s:List UInt8}(E:0<s.length):(ay s).2.1.length<=s.length/\((ay s).2.2=0->0<(ay s).2.1.length)/\0<=(ay s).2.2/\(ay s).2.2<10:=by
 have h:=kN s;have T:=symLen_le E;have l1:=take_len h;have O:=take_len T;rw[ay];split
 ·split
  ·simp
  dsimp only;omega
 split
 ·split
  ·dsimp only;omega
  simp
 split
 ·simp
 dsimp only;omega
abbrev Sc:=List Token×Int×Int
def consT(t:Token)(r:Sc):Sc:=if r.2.1=0 then(t::r.1,r.2) else r
def preT(l:List Token)(r:Sc):Sc:=if r.2.1=0 then(l++r.1,r.2) else r
def dP:Nat->List UInt8->Nat->Sc
 |0,_,_=>([],0,0)
 |f+1,s,at_=>
  if at_<s.length then
   if(ay (s.drop at_)).2.2=0 then
    consT ⟨(ay (s.drop at_)).1,⟨(ay (s.drop at_)).2.1⟩,at_⟩ (dP f s (at_+(ay (s.drop at_)).2.1.length+spl false (s.drop (at_+(ay (s.drop at_)).2.1.length))))
   else([],(ay (s.drop at_)).2.2,at_)
  else([],0,0)
def bc(s:List UInt8):Sc:=if 20000<s.length then([],6,20000) else dP (s.length+1) s (spl false s)
theorem pre_cons(l:List Token)(t:Token)(r:Sc):preT l (consT t r)=preT (l++[t]) r:=by
 unfold preT consT;by_cases h:r.2.1=0
 ·simp[h]
 simp[h]
theorem pre_nil(r:Sc):preT [] r=r:=by unfold preT;split<;>rfl
theorem scan_step{s:List UInt8}{at_ f:Nat}{l:List Token}{R:Sc}(h:at_<s.length)(O:s.length-at_<f)(e:(ay (s.drop at_)).2.2=0)(E:preT l (dP f s at_)=R):
  preT (l++[⟨(ay (s.drop at_)).1,⟨(ay (s.drop at_)).2.1⟩,at_⟩]) (dP (f-1) s (at_+(ay (s.drop at_)).2.1.length+spl false (s.drop (at_+(ay (s.drop at_)).2.1.length))))=R:=by
 obtain⟨g,rfl⟩: ∃g,f=g+1:=⟨f-1,by omega⟩
 rw[dP,if_pos h,if_pos e,pre_cons]at E
 exact E
theorem scan_err{s:List UInt8}{at_ f:Nat}{l:List Token}{R:Sc}(h:at_<s.length)(O:s.length-at_<f)(e:(ay (s.drop at_)).2.2≠0)(E:preT l (dP f s at_)=R):R=([],(ay (s.drop at_)).2.2,(at_:Int)):=by
 obtain⟨g,rfl⟩: ∃g,f=g+1:=⟨f-1,by omega⟩
 rw[dP,if_pos h,if_neg e,preT,if_neg (e)]at E;exact E.symm
theorem scan_end{s:List UInt8}{at_ f:Nat}{l:List Token}{R:Sc}(h: ¬at_<s.length)(E:preT l (dP f s at_)=R):R=(l,0,0):=by
 have:dP f s at_=([],0,0):=by
  cases f with
  |zero=>rfl
  |succ f=>rw[dP,if_neg h]
 rw[this,preT,if_pos rfl,a0m]at E;exact E.symm
theorem scan_c(s:List UInt8)(hs:HS (.of H []) F H [] R)(hl:s.length<4611686018427387904):kKt ex 11 [(tX s)] H fun v H'=> ∃(al:Option Addr) (kl:Nat) (l:List Token) (p:Fp) (e:ErrT) (F':Fz),Fz.le F F'/\HS (.of H []) F' H' [p] R/\v= .tuple ⟨[sL al l.length kl,.agg ⟨[iI e.why,iI e.at_]⟩]⟩/\OS F' (sL al l.length kl) l p/\in64 e.why/\in64 e.at_/\l=(bc s).1/\e=ErrT.mk (bc s).2.1 (bc s).2.2:=by
 refine aB Try.func11 rfl rfl (ak 1 rfl (ab (za (sL none 0 0) (aJ (aR hs rfl) rfl rfl ?_))));rintro _ H2 _ ⟨b1,rfl,(b5:HS _ _ _ [(fP b1 [(iI 0),(iI 0)])] _),_⟩;refine ai 3 rfl (wT 1 [] 8 10 [] [(10,(.bool (decide ((20000:Int)<(s.length:Int)))))] rfl fun _=>zd 1 2 (fun c4=>?_) fun c4=>?_)
 ·refine ab (wTo 2 0 [] 2 2 [11] [(2,(sL none 0 0)),(11,(aG [(iI 6),(iI 20000)]))] rfl fun _=>aH (aq (q:=0) b5 rfl rfl rfl rfl rfl rfl rfl rfl rfl) rfl ?_);rintro _ H6 _ ⟨(b6:HS _ _ _ [(fP b1 [(iI 6),(iI 20000)])] _),_⟩;refine ai 1 rfl (aj ⟨.inr rfl,_,(rT rfl (rC rfl (cY rfl rfl (HS.hc b6 (i:=0) rfl) rfl) rN)),none,0,([]:List Token),[],(⟨6,20000⟩:ErrT),_,fR,(HS.cons (HS.forget b6)),rfl,(OS.nil:OS _ _ _ []),(by(dsimp only;omega)),(by(dsimp only;omega)),(by rw[bc,if_pos (by omega)]),(by rw[bc,if_pos (by omega)])⟩)
 refine wT 3 [] 1 0 [4] [(4,(sL none 0 0))] rfl fun _=>wU 2 [(1,.o (iI ((spl false s:Nat):Int)))] 12 13 [5] [(5,(iI ((spl false s:Nat):Int)))] (iT ex s H2 (by omega)) rfl fun _=>?_
 have Z:=HS.snoc b5;have Z:HS _ _ _ [_,[]] _:=Z;refine av (fun(mm:Nat) f H'=> ∃(at_:Nat) (l:List Token) (h:Nat) (E:Option Addr) (O:Nat) (T:Fp) (F':Fz),Fz.le F F'/\HS (Base.of H []) F' H' [(fP b1 [(iI 0),(iI 0)]),T] R/\OS F' (sL E l.length O) l T/\aQ f [(0,(tX s)),(3,(pT b1 0)),(4,(sL E l.length O)),(5,(iI (at_:Int)))]/\mm=s.length-at_/\(at_<=s.length)/\(s.length-at_<h)/\(preT l (dP h s at_)=bc s)/\(l.length<=at_)) _ ⟨spl false s,([]:List Token),s.length+1,none,0,[],_,fR,Z,(OS.nil:OS _ (sL none 0 0) ([]:List Token) []),⟨rfl,rfl,rfl,rfl,trivial⟩,rfl,(kS s false),(by omega),(by rw[bc,if_neg (by omega)];(first|done|exact pre_nil _)),(a0p _)⟩ ?_;rintro d8 f9 H9 ⟨at_,l,h,E,O,T,F9,a4,b0,U,b4,rfl,h1,hf,h2,h3⟩ c5;refine aE _ b4 (fun _=>?_);clear b4;refine ak 2 rfl (wT 1 [] 14 17 [] [(17,(.bool (decide ((at_:Int)<(s.length:Int)))))] rfl fun _=>zd 4 5 (fun c3=>?_) fun c3=>?_)
 ·have hd:(s.drop at_).length=s.length-at_:=a0P ..;have q:=lh (s:=s.drop at_) (by omega);have sp:=kS (s.drop (at_+(ay (s.drop at_)).2.1.length)) false;rw[a0P]at sp;refine ab (wUo 3 0 [] 25 27 [] [(27,(tX (s.drop at_)))] (vA (show(0:Int)<=(at_:Int) from by omega) (show(at_:Int)<=(((s:List UInt8).length:Nat):Int) from by omega)) rfl fun _=>zc (first_c ex (s.drop at_) (HS.call b0) (by omega) (by omega)) ?_);rintro _ dd ⟨d9,d6,c9,Y,an,rfl,co,cL,rfl,rfl⟩;replace an:HS _ _ _ [_,T] _:=HS.back b0 rfl an;replace U:=U.mono Y;refine wTo 3 4 [] 29 30 [24] [(29,(aG [(iI ((Token.mk (ay (s.drop at_)).1 (Str.mk (ay (s.drop at_)).2.1) 0).kind)),(tX (Token.mk (ay (s.drop at_)).1 (Str.mk (ay (s.drop at_)).2.1) 0).text.b),(iI ((Token.mk (ay (s.drop at_)).1 (Str.mk (ay (s.drop at_)).2.1) 0).at_))])),(30,(iI ((ay (s.drop at_)).2.2)))] rfl fun _=>aJ (aR an rfl) rfl rfl ?_
  rintro _ dn _ ⟨ax,rfl,(ci:HS _ _ _ [_,_,(fP ax [(iI 0),(tX []),(iI 0)])] _),_⟩;refine aH (aq (q:=2) ci rfl rfl rfl rfl rfl rfl rfl rfl rfl) rfl ?_;rintro _ dt _ ⟨(a5:HS _ _ _ [_,_,(fP ax [(iI ((Token.mk (ay (s.drop at_)).1 (Str.mk (ay (s.drop at_)).2.1) 0).kind)),(tX (Token.mk (ay (s.drop at_)).1 (Str.mk (ay (s.drop at_)).2.1) 0).text.b),(iI ((Token.mk (ay (s.drop at_)).1 (Str.mk (ay (s.drop at_)).2.1) 0).at_))])] _),_⟩;refine za (iI ((ay (s.drop at_)).2.2)) (ai 3 rfl (wT 1 [] 31 32 [] [(32,(.bool ((ay (s.drop at_)).2.2 !=0)))] rfl fun _=>zi 1 2 (fun a2=>?_) fun a2=>?_))
  ·try simp only[BS]at a2
   refine ab (wTo 4 0 [] 33 35 [2] [(2,(sL none 0 0)),(35,(aG [(iI ((ay (s.drop at_)).2.2)),(iI (at_:Int))]))] rfl fun _=>aH (aq (q:=0) a5 rfl rfl rfl rfl rfl rfl rfl rfl rfl) rfl ?_);rintro _ d1 _ ⟨(a6:HS _ _ _ [(fP b1 [(iI ((ay (s.drop at_)).2.2)),(iI (at_:Int))]),_,_] _),_⟩;refine ai 1 rfl (aj ⟨.inr rfl,_,(rT rfl (rC rfl (cY rfl rfl (HS.hc a6 (i:=0) rfl) rfl) rN)),none,0,([]:List Token),[],(⟨(ay (s.drop at_)).2.2,(at_:Int)⟩:ErrT),_,(fT (a4) Y),(HS.cons (HS.forget a6)),rfl,(OS.nil:OS _ _ _ []),(by(dsimp only;omega)),(by(dsimp only;omega)),(by rw[scan_err (by omega) hf (by omega) h2]),(by rw[scan_err (by omega) hf (by omega) h2])⟩)
  try simp only[BS]at a2
  refine ab (wTo 2 0 [] 36 37 [] [(36,(iI (at_:Int))),(37,(pT ax 2))] rfl fun _=>aH (aq (q:=2) a5 rfl rfl rfl rfl rfl rfl rfl rfl rfl) rfl ?_);rintro _ d2 _ ⟨(a7:HS _ _ _ [_,_,(fP ax [(iI ((Token.mk (ay (s.drop at_)).1 (Str.mk (ay (s.drop at_)).2.1) 0).kind)),(tX (Token.mk (ay (s.drop at_)).1 (Str.mk (ay (s.drop at_)).2.1) 0).text.b),(iI (at_:Int))])] _),_⟩;let b2:Value:=(aG [(iI ((Token.mk (ay (s.drop at_)).1 (Str.mk (ay (s.drop at_)).2.1) 0).kind)),(tX (Token.mk (ay (s.drop at_)).1 (Str.mk (ay (s.drop at_)).2.1) 0).text.b),(iI (at_:Int))])
  refine ai 2 rfl (ab (wUo 2 0 [(1,.o b2)] 38 39 [] [(38,(sL E l.length O)),(39,b2)] (qn 55 0 3 (HS.hc a7 (i:=2) rfl) rfl rfl rfl rfl) rfl fun _=>aJ (ba (α:=Token) (ps:=[(0,b2)]) (cells:=[(iI ((Token.mk (ay (s.drop at_)).1 (Str.mk (ay (s.drop at_)).2.1) 0).kind)),(tX (Token.mk (ay (s.drop at_)).1 (Str.mk (ay (s.drop at_)).2.1) 0).text.b),(iI (at_:Int))]) ([(⟨(Token.mk (ay (s.drop at_)).1 (Str.mk (ay (s.drop at_)).2.1) 0).kind,⟨(Token.mk (ay (s.drop at_)).1 (Str.mk (ay (s.drop at_)).2.1) 0).text.b⟩,(at_:Int)⟩:Token)]:List Token) a7 rfl rfl rfl (by kernel_rfl) ⟨[(iI ((Token.mk (ay (s.drop at_)).1 (Str.mk (ay (s.drop at_)).2.1) 0).kind)),(tX (Token.mk (ay (s.drop at_)).1 (Str.mk (ay (s.drop at_)).2.1) 0).text.b),(iI (at_:Int))],[],rfl,⟨rfl,by omega,by(dsimp only;omega)⟩,rfl⟩ rfl) rfl rfl ?_));rintro _ d3 c6 ⟨d5,d7,rfl,b9,(a8:HS _ _ _ [_,_,_,c6] _),_⟩;refine aJ (bS (α:=Token) (q:=1) U a8 rfl rfl rfl (OS.sv b9 a8 (i:=3) rfl) rfl rfl rfl rfl rfl rfl rfl (by(simp only[a00,a01,a03];omega))) rfl rfl ?_;rintro _ c0 b8 ⟨b3,b7,rfl,ch,(a9:HS _ _ _ [_,b8,_,_] _),_⟩;refine za (sL b3 (l++([(⟨(Token.mk (ay (s.drop at_)).1 (Str.mk (ay (s.drop at_)).2.1) 0).kind,⟨(Token.mk (ay (s.drop at_)).1 (Str.mk (ay (s.drop at_)).2.1) 0).text.b⟩,(at_:Int)⟩:Token)]:List Token)).length b7) (ai 1 rfl (wR 2 [(2,.o (tX (Token.mk (ay (s.drop at_)).1 (Str.mk (ay (s.drop at_)).2.1) 0).text.b))] 42 46 [5] [(5,(iI ((at_:Int)+(((Token.mk (ay (s.drop at_)).1 (Str.mk (ay (s.drop at_)).2.1) 0).text.b).length:Int))))] (vA (ql 9 1 (HS.hc a9 (i:=2) rfl) rfl rfl) (vA (vi (n:=(at_:Int)+(((Token.mk (ay (s.drop at_)).1 (Str.mk (ay (s.drop at_)).2.1) 0).text.b).length:Int))) trivial)) rfl fun _=>wR 1 [(4,.o (iI ((spl false (s.drop (at_+(((Token.mk (ay (s.drop at_)).1 (Str.mk (ay (s.drop at_)).2.1) 0).text.b).length))):Nat):Int)))] 18 23 [5] [(5,(iI (((at_:Int)+(((Token.mk (ay (s.drop at_)).1 (Str.mk (ay (s.drop at_)).2.1) 0).text.b).length:Int))+((spl false (s.drop (at_+(((Token.mk (ay (s.drop at_)).1 (Str.mk (ay (s.drop at_)).2.1) 0).text.b).length))):Nat):Int))))] (vA (vA (show(0:Int)<=(at_:Int)+(((Token.mk (ay (s.drop at_)).1 (Str.mk (ay (s.drop at_)).2.1) 0).text.b).length:Int) from by omega) (show(at_:Int)+(((Token.mk (ay (s.drop at_)).1 (Str.mk (ay (s.drop at_)).2.1) 0).text.b).length:Int)<=(((s:List UInt8).length:Nat):Int) from by(dsimp only;omega))) (vA (iT ex (s.drop (at_+(((Token.mk (ay (s.drop at_)).1 (Str.mk (ay (s.drop at_)).2.1) 0).text.b).length))) c0 (by(rw[a0P];omega))) (vA (vi (n:=((at_:Int)+(((Token.mk (ay (s.drop at_)).1 (Str.mk (ay (s.drop at_)).2.1) 0).text.b).length:Int))+((spl false (s.drop (at_+(((Token.mk (ay (s.drop at_)).1 (Str.mk (ay (s.drop at_)).2.1) 0).text.b).length))):Nat):Int)) (by(dsimp only;omega))) trivial))) rfl fun _=>?_));refine c5 _ _ _ ?_ ⟨(at_+(((Token.mk (ay (s.drop at_)).1 (Str.mk (ay (s.drop at_)).2.1) 0).text.b).length))+(spl false (s.drop (at_+(((Token.mk (ay (s.drop at_)).1 (Str.mk (ay (s.drop at_)).2.1) 0).text.b).length)))),l++([(⟨(Token.mk (ay (s.drop at_)).1 (Str.mk (ay (s.drop at_)).2.1) 0).kind,⟨(Token.mk (ay (s.drop at_)).1 (Str.mk (ay (s.drop at_)).2.1) 0).text.b⟩,(at_:Int)⟩:Token)]:List Token),h-1,b3,b7,b8,_,(fT (a4) Y),(HS.sub a9 (a08 _ _)),ch,⟨rfl,rfl,rfl,rfl,trivial⟩,rfl,(by dsimp only;omega),(by dsimp only;omega),(scan_step (by omega) hf (by omega) h2),(by rw[a00,a0r];dsimp only;omega)⟩;dsimp only;omega
 refine ab (wTo 3 0 [] 47 48 [2] [(2,(sL E l.length O)),(48,(aG [(iI 0),(iI 0)]))] rfl fun _=>aH (aq (q:=0) b0 rfl rfl rfl rfl rfl rfl rfl rfl rfl) rfl ?_);rintro _ d4 _ ⟨(bb:HS _ _ _ [_,T] _),_⟩;refine ai 1 rfl (aj ⟨.inr rfl,_,(rT rfl (rC rfl (cY rfl rfl (HS.hc bb (i:=0) rfl) rfl) rN)),E,O,l,T,(⟨0,0⟩:ErrT),_,(a4),(HS.only bb (i:=1) rfl),rfl,U,(by(dsimp only;omega)),(by(dsimp only;omega)),(by rw[scan_end (by omega) h2]),(by rw[scan_end (by omega) h2])⟩)
def iB(n m:Int):Int:=bif decide (Int.tmod n m<0) then Int.tmod n m+m else Int.tmod n m
theorem pick_c(n:Int)(m:Int)(H:Heap)(h:0<m/\m<9223372036854775808):kKt ex 14 [(iI n),(iI m)] H fun v H'=> ∃(r:Int),H'=H/\v=iI r/\r=iB n m/\(0<=r/\r<m):=by
 have T: -m<n.tmod m:=Int.lt_tmod_of_pos n h.1;have U:n.tmod m<m:=Int.tmod_lt_of_pos n h.1;refine aB Try.func14 rfl rfl (ak 1 rfl (wT 2 [] 4 4 [] [(4,(iI 0))] rfl fun _=>wU 3 [] 5 7 [0] [(0,(iI (Int.tmod n m)))] (show m≠0 from by omega) rfl fun _=>wT 1 [] 8 9 [] [(9,(.bool (decide (Int.tmod n m<0))))] rfl fun _=>zi 0 2 (fun E=>?_) fun E=>?_))
 ·have O:=E;try simp only[BS]at O
  refine wU 2 [] 10 12 [0] [(0,(iI ((Int.tmod n m)+m)))] (vi (n:=(Int.tmod n m)+m)) rfl fun _=>wT 1 [] 4 4 [13] [(4,(iI ((Int.tmod n m)+m)))] rfl fun _=>aj ⟨.inr rfl,_,rfl,(Int.tmod n m)+m,rfl,rfl,(by simp only[iB,E,cond_true,cond_false]),(by omega)⟩
 have O:=E;try simp only[BS]at O
 refine wT 1 [] 4 4 [13] [(4,(iI (Int.tmod n m)))] rfl fun _=>aj ⟨.inr rfl,_,rfl,Int.tmod n m,rfl,rfl,(by simp only[iB,E,cond_true,cond_false]),(by omega)⟩
theorem pick_c_q(n:Int)(m:Int)(H:Heap)(h:0<m/\m<9223372036854775808):kKt ex 14 [(iI n),(iI m)] H fun v H'=>v=(iI (iB n m))/\H'=H:=
 cq (pick_c ex n m H h) (by rintro _ _ ⟨_,rfl,rfl,rfl,_⟩;exact⟨rfl,rfl⟩)
end Go.Proofs.Ytapgbjedgcpffaa.l1
