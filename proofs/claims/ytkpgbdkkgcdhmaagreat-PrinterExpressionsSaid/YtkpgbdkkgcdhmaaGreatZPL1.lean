/-
The lexer of the program. No condition but that a text is not longer than a machine eI.
-/
import Derived.Test.YtkpgbdkkgcdhmaaGreatZPRD
import Derived.Test.YtkpgbdkkgcdhmaaGreatChecked
noncomputable section
namespace Go.Proofs.YtkpgbdkkgcdhmaaGreat
abbrev kKt(e:FuncId):=Go.R.C Tryz.prog 0 (Go.R.KX e)
end Go.Proofs.YtkpgbdkkgcdhmaaGreat
namespace Go.Proofs.YtkpgbdkkgcdhmaaGreat.l1
open Go.R
set_option maxRecDepth 10000
set_option linter.unusedVariables false
set_option linter.unusedSimpArgs false
variable (ex:FuncId) {F:Fz} {H:Heap} {R:List Fp}
theorem ql{H:Heap}{b o:Nat}{cs:List Value}{w:Value}(t:TypeId)(i:Nat)(hc:HC H.get b o cs)(ha:eJ Tryz.prog t=some false)(A:cs[i]?=some w):LDv Tryz.prog H t (.pointer (some ⟨b,o+i,none⟩)) w:=ld1 hc ha A
theorem qn{H:Heap}{b o:Nat}{cs l:List Value}(t:TypeId)(i n:Nat)(hc:HC H.get b o cs)(ha:eJ Tryz.prog t=some true)(hs:di Tryz.prog t=some n)(E:Nat.ble (i+n) cs.length=true)(A:fN (gy cs i) n=l):LDv Tryz.prog H t (.pointer (some ⟨b,o+i,none⟩)) (.agg ⟨l⟩):=ldN hc ha hs E A
structure Token where
 kind:Int
 text:Str
 at_:Int
 deriving Inhabited
instance :Rp Token where
 sz:=3
 rep F cs x:=cs=[.int .i64 x.kind,.string ⟨⟨x.text.b⟩⟩,.int .i64 x.at_]/\in64 x.kind/\in64 x.at_
 len:=by rintro F cs x ⟨rfl,_⟩;rfl
 one:=by rintro F cs x ⟨rfl,_⟩;rfl
 mono:=by intro F F' cs x _ h;exact h
theorem Token.vw{F:Fz}{get:Nat->Option AObj}{v:Value}{cf:Nat->List Value}{j:Nat}{l:List Token}(h:VW F get v l cf j)(O:j<l.length:=by first|(dsimp only;omega)|omega):HC get (sB v) (sO v+j *Rp.sz Token) [.int .i64 (l.getD j default).kind,.string ⟨⟨(l.getD j default).text.b⟩⟩,.int .i64 (l.getD j default).at_]:=by obtain⟨⟨E,_⟩,A⟩:=h.1 default O;rw[show cf j=_ from E]at A;exact A
theorem Token.fx{F:Fz}{get:Nat->Option AObj}{v:Value}{cf:Nat->List Value}{j:Nat}{l:List Token}(h:VW F get v l cf j):in64 (l.getD j default).kind/\in64 (l.getD j default).at_:=by
 rcases a0k j l.length with hj|hj
 ·obtain⟨⟨O,A,E⟩,_⟩:=h.1 default hj;exact⟨A,E⟩
 rw[bM hj];exact⟨by decide,by decide⟩
structure ErrT where
 why:Int
 at_:Int
 deriving Inhabited
instance :Rp ErrT where
 sz:=2
 rep F cs x:=cs=[.int .i64 x.why,.int .i64 x.at_]/\in64 x.why/\in64 x.at_
 len:=by rintro F cs x ⟨rfl,_⟩;rfl
 one:=by rintro F cs x ⟨rfl,_⟩;rfl
 mono:=by intro F F' cs x _ h;exact h
def eC(c:UInt8):Bool:=decide (97<=c.toNat)&&decide (c.toNat<=122)||decide (65<=c.toNat)&&decide (c.toNat<=90)||c.toNat==95
def bH(c:UInt8):Bool:=decide (48<=c.toNat)&&decide (c.toNat<=57)
def bG(c:UInt8):Bool:=eC c||bH c
def aE(s:List UInt8):Nat:=(s.takeWhile bG).length
theorem fM{p:UInt8->Bool}: ∀{s:List UInt8} {n:Nat},n<=s.length->(s.take n).all p=true->(n<s.length->p (s.getD n 0)=false)->n=(s.takeWhile p).length
 | [],n,h,_,_=>by simp at h;simp[h]
 |c::s,0,_,_,E=>by have:=E (by simp);simp only[List.getD_cons_zero]at this;rw[a1d,this];rfl
 |c::s,n+1,h,A,E=>by simp only[List.take_succ_cons,a0s,a02]at A;rw[a1d,A.1];have:=fM (p:=p) (s:=s) (n:=n) (by simpa using h) A.2 (fun O=>by have:=E (by simpa using O);simpa using this);simp[←this]
theorem iB(s:List UInt8):aE s<=s.length:=(List.takeWhile_prefix _).length_le
def blankB(c:UInt8):Bool:=c==32||c==9||c==10||c==13
def isDigAll(s:List UInt8):Bool:=s.all bH
def iY:List UInt8:=[57,50,50,51,51,55,50,48,51,54,56,53,52,55,55,53,56,48,56]
def cw(s:List UInt8):Bool:=s.all bH&&((s.getD 0 0 !=48||s.length==1)&&(decide (s.length<19)||s.length==19&&(Op.bytesLess s iY||s==iY)))
theorem vn1{s:List UInt8}{i:Nat}(h:i<s.length)(c:bH (s.getD i 0)=false):false=cw s:=by
 have:s.all bH=false:=by rw[List.all_eq_false];refine⟨s.getD i 0,?_,by simpa using c⟩;rw[a09,a08 h];exact a1a h
 simp[cw,this]
theorem all_of_take{p:UInt8->Bool}{s:List UInt8}{i:Nat}(h:s.length<=i)(A:(s.take i).all p=true):s.all p=true:=by rwa [a0o h]at A
theorem nat_beq48(c:UInt8):(((c.toNat:Int) !=48))=(c !=48):=by
 by_cases h:c=48
 ·subst h;rfl
 have:c.toNat≠48:=fun e=>h (UInt8.toNat_inj.mp (by rw[e];rfl))
 have A:((c.toNat:Int) !=48)=true:=by simp;omega
 rw[A,eq_comm];simpa using h
theorem int_beq(a:Nat)(b:Nat):((a:Int)==(b:Int))=(a==b):=by rw[a0J];simp;omega
theorem vn2{s:List UInt8}(h:s.all bH=true):(((((s.getD 0 0).toNat:Int) !=48)||((s.length:Int)==1))&&((decide ((s.length:Int)<19))||(((s.length:Int)==19)&&(Op.bytesLess s iY||s==iY))))=cw s:=by rw[cw,h,nat_beq48,show((s.length:Int)==1)=(s.length==1) from int_beq _ 1,show((s.length:Int)==19)=(s.length==19) from int_beq _ 19,a17];rw[show decide ((s.length:Int)<19)=decide (s.length<19) from decide_eq_decide.mpr (by omega)]
def dj:List UInt8:=[43,45,42,47,37,38,124,94,126,33,60,62,61,63,58,59,44,40,41,123,125,91,93]
def bJ(s:List UInt8):Nat:=
 if s.take 3=[62,62,62] then 3
 else if s.take 2=[60,60]\/s.take 2=[62,62]\/s.take 2=[60,61]\/s.take 2=[62,61]\/s.take 2=[61,61]\/s.take 2=[33,61] then 2
 else if s.getD 0 0∈dj then 1 else 0
theorem tk3{s:List UInt8}{a b c:UInt8}(h:(3:Int)<=s.length->s.take 3≠ [a,b,c]): ¬s.take 3=[a,b,c]:=by intro e;refine h ?_ e;have:=congrArg List.length e;rw[a0O]at this;simp only[a03,a05]at this;omega
theorem tk2{s:List UInt8}{a b:UInt8}(h:(2:Int)<=s.length->s.take 2≠ [a,b]): ¬s.take 2=[a,b]:=by intro e;refine h ?_ e;have:=congrArg List.length e;rw[a0O]at this;simp only[a03,a05]at this;omega
theorem sing_mem{c:UInt8}{i:Nat}(h:i<23)(e:((c.toNat:Int))=((dj.getD i 0).toNat:Int)):c∈dj:=by have:c=dj.getD i 0:=UInt8.toNat_inj.mp (by exact_mod_cast e);rw[this,a09,a08 (show i<dj.length from h)];exact a1a _
theorem sing_ne{c:UInt8}{i j:Nat}(e:((c.toNat:Int))≠((dj.getD i 0).toNat:Int))(A: ∀j,j<i->c≠dj.getD j 0)(h:j<i+1):c≠dj.getD j 0:=by
 rcases Nat.lt_succ_iff_lt_or_eq.mp h with h|h
 ·exact A j h
 subst h;intro E;exact e (by rw[E])
theorem sing_no{c:UInt8}(A: ∀j,j<23->c≠dj.getD j 0):c∉dj:=by intro h;obtain⟨j,E,e⟩:=List.getElem_of_mem h;refine A j E ?_;rw[a09,a08 E];exact e.symm
theorem isLetter_c(c:UInt8)(H:Heap):kKt ex 132 [(.int .u8 (c.toNat:Int))] H fun v H'=> ∃(r:Bool),H'=H/\v= .bool r/\r=eC c:=by refine av Tryz.func132 rfl rfl (aj 1 rfl (wT 2 [] 2 2 [] [(2,(.bool false))] rfl fun _=>wT 1 [] 2 20 [] [(2,(.bool ((((decide ((97:Int)<=(c.toNat:Int)))&&(decide ((c.toNat:Int)<=122)))||((decide ((65:Int)<=(c.toNat:Int)))&&(decide ((c.toNat:Int)<=90))))||((c.toNat:Int)==95))))] rfl fun _=>ae ⟨.inr rfl,_,rfl,((((decide ((97:Int)<=(c.toNat:Int)))&&(decide ((c.toNat:Int)<=122)))||((decide ((65:Int)<=(c.toNat:Int)))&&(decide ((c.toNat:Int)<=90))))||((c.toNat:Int)==95)),rfl,rfl,(by simp[eC];grind)⟩))
theorem isLetter_c_q(c:UInt8)(H:Heap):kKt ex 132 [(.int .u8 (c.toNat:Int))] H fun v H'=>v=(.bool (eC c))/\H'=H:=
 cq (isLetter_c ex c H) (by rintro _ _ ⟨_,rfl,rfl,rfl⟩;exact⟨rfl,rfl⟩)
theorem isDigit_c(c:UInt8)(H:Heap):kKt ex 114 [(.int .u8 (c.toNat:Int))] H fun v H'=> ∃(r:Bool),H'=H/\v= .bool r/\r=bH c:=by refine av Tryz.func114 rfl rfl (aj 1 rfl (wT 2 [] 2 2 [] [(2,(.bool false))] rfl fun _=>wT 1 [] 2 8 [] [(2,(.bool ((decide ((48:Int)<=(c.toNat:Int)))&&(decide ((c.toNat:Int)<=57)))))] rfl fun _=>ae ⟨.inr rfl,_,rfl,((decide ((48:Int)<=(c.toNat:Int)))&&(decide ((c.toNat:Int)<=57))),rfl,rfl,(by simp[bH];grind)⟩))
theorem gT(c:UInt8)(H:Heap):kKt ex 114 [(.int .u8 (c.toNat:Int))] H fun v H'=>v=(.bool (bH c))/\H'=H:=
 cq (isDigit_c ex c H) (by rintro _ _ ⟨_,rfl,rfl,rfl⟩;exact⟨rfl,rfl⟩)
theorem wordLen_c(s:List UInt8)(H:Heap)(hl:s.length<4611686018427387904):kKt ex 112 [(.string ⟨⟨s⟩⟩)] H fun v H'=> ∃(r:Nat),H'=H/\v= .int .i64 (r:Int)/\r=aE s:=by
 refine av Tryz.func112 rfl rfl (aj 1 rfl (wT 2 [] 2 2 [] [(2,(iI 0))] rfl fun _=>wT 3 [] 1 0 [3] [(3,(iI 0))] rfl fun _=>aq (fun(mm:Nat) f H'=> ∃(n:Nat),H'=H/\aN f [(0,(.string ⟨⟨s⟩⟩)),(3,(iI (n:Int)))]/\mm=s.length-n/\(n<=s.length)/\((s.take n).all bG=true)) _ ⟨0,rfl,⟨rfl,rfl,trivial⟩,rfl,(by omega),(by rfl)⟩ ?_));rintro an f3 H ⟨n,rfl,O,rfl,Y,U⟩ V;refine aC _ O (fun _=>?_);clear O;refine aj 2 rfl ?_;have Z:=fG (s.getD n 0);have al:=fG (s.getD n 0);refine wR 1 [(8,.o (.bool (eC (s.getD n 0)))),(13,.o (.bool (bH (s.getD n 0))))] 4 19 [] [(19,(.bool ((decide ((n:Int)<(s.length:Int)))&&(eC (s.getD n 0)||bH (s.getD n 0)))))] (vA (fun(A:(decide ((n:Int)<(s.length:Int)))=true)=>(vA (show(0:Int)<=(n:Int) from by(try simp only[BS]at A);omega) (show(n:Int)<(((s:List UInt8).length:Nat):Int) from by(try simp only[BS]at A);omega))) (vA (fun(A:(decide ((n:Int)<(s.length:Int)))=true)=>(isLetter_c_q ex (s.getD n 0) H)) (vA (fun(A:(eC (s.getD n 0))=false) (T:(decide ((n:Int)<(s.length:Int)))=true)=>(vA (show(0:Int)<=(n:Int) from by(try simp only[BS]at A T);omega) (show(n:Int)<(((s:List UInt8).length:Nat):Int) from by(try simp only[BS]at A T);omega))) (vA (fun(A:(eC (s.getD n 0))=false) (T:(decide ((n:Int)<(s.length:Int)))=true)=>(gT ex (s.getD n 0) H)) trivial)))) rfl fun _=>zi 2 5 (fun E=>?_) fun E=>?_
 ·try simp only[BS]at E
  have c:=E;refine wU 2 [] 20 21 [3] [(3,(iI ((n:Int)+1)))] (vi (n:=(n:Int)+1)) rfl fun _=>?_
  refine V _ _ _ ?_ ⟨n+1,rfl,⟨rfl,rfl,trivial⟩,rfl,(by omega),(by rw[iw (by omega),U,bG];simpa using c.2)⟩;omega
 try simp only[BS]at E
 have c:=E;refine wT 1 [] 2 2 [22] [(2,(iI (n:Int)))] rfl fun _=>ae ⟨.inr rfl,_,rfl,n,rfl,rfl,(fM Y U (fun hn=>by have:=c (by omega);rw[bG,this.1,this.2];rfl))⟩
theorem wordLen_c_q(s:List UInt8)(H:Heap)(A:s.length<4611686018427387904):kKt ex 112 [(.string ⟨⟨s⟩⟩)] H fun v H'=>v=(iI ((aE s:Nat):Int))/\H'=H:=
 cq (wordLen_c ex s H A) (by rintro _ _ ⟨_,rfl,rfl,rfl⟩;exact⟨rfl,rfl⟩)
theorem validNum_c(s:List UInt8)(H:Heap)(hl:s.length<4611686018427387904)(h0:0<s.length):kKt ex 115 [(.string ⟨⟨s⟩⟩)] H fun v H'=> ∃(r:Bool),H'=H/\v= .bool r/\r=cw s:=by
 refine av Tryz.func115 rfl rfl (aj 1 rfl (wT 3 [] 2 2 [] [(2,(.bool false))] rfl fun _=>wT 2 [] 1 0 [3] [(3,(iI 0))] rfl fun _=>aq (fun(mm:Nat) f H'=> ∃(i:Nat),H'=H/\aN f [(0,(.string ⟨⟨s⟩⟩)),(3,(iI (i:Int)))]/\mm=s.length-i/\(i<=s.length)/\((s.take i).all bH=true)) _ ⟨0,rfl,⟨rfl,rfl,trivial⟩,rfl,(by omega),(by rfl)⟩ ?_));rintro Z f3 H ⟨i,rfl,E,rfl,h1,T⟩ U;refine aC _ E (fun _=>?_);clear E;refine aj 2 rfl (wT 1 [] 4 7 [] [(7,(.bool (decide ((i:Int)<(s.length:Int)))))] rfl fun _=>zd 4 5 (fun O=>?_) fun O=>?_)
 ·have ci:=O;have Y:=fG (s.getD i 0);refine wR 1 [(3,.o (.bool (bH (s.getD i 0))))] 10 14 [] [(14,(.bool (!(bH (s.getD i 0)))))] (vA (vA (show(0:Int)<=(i:Int) from by omega) (show(i:Int)<(((s:List UInt8).length:Nat):Int) from by omega)) (vA (gT ex (s.getD i 0) H) trivial)) rfl fun _=>zi 1 2 (fun A=>?_) fun A=>?_
  ·try simp only[BS]at A
   have c:=A;refine wT 1 [] 2 2 [] [(2,(.bool false))] rfl fun _=>ae ⟨.inr rfl,_,rfl,false,rfl,rfl,(vn1 (by omega) c)⟩
  try simp only[BS]at A
  have c:=A;refine wU 1 [] 8 9 [3] [(3,(iI ((i:Int)+1)))] (vi (n:=(i:Int)+1)) rfl fun _=>?_
  refine U _ _ _ ?_ ⟨i+1,rfl,⟨rfl,rfl,trivial⟩,rfl,(by omega),(by rw[iw (by omega),T,c];rfl)⟩;omega
 have ci:=O;have V:=fG (s.getD 0 0);refine wU 1 [] 15 36 [2] [(2,(.bool (((((s.getD 0 0).toNat:Int) !=48)||((s.length:Int)==1))&&((decide ((s.length:Int)<19))||(((s.length:Int)==19)&&(Op.bytesLess s [57,50,50,51,51,55,50,48,51,54,56,53,52,55,55,53,56,48,56]||s==([57,50,50,51,51,55,50,48,51,54,56,53,52,55,55,53,56,48,56]:List UInt8)))))))] (vA (show(0:Int)<=0 from by omega) (show(0:Int)<(((s:List UInt8).length:Nat):Int) from by omega)) rfl fun _=>ae ⟨.inr rfl,_,rfl,(((((s.getD 0 0).toNat:Int) !=48)||((s.length:Int)==1))&&((decide ((s.length:Int)<19))||(((s.length:Int)==19)&&(Op.bytesLess s [57,50,50,51,51,55,50,48,51,54,56,53,52,55,55,53,56,48,56]||s==([57,50,50,51,51,55,50,48,51,54,56,53,52,55,55,53,56,48,56]:List UInt8))))),rfl,rfl,(vn2 (all_of_take (by omega) T))⟩
theorem validNum_c_q(s:List UInt8)(H:Heap)(E:s.length<4611686018427387904)(A:0<s.length):kKt ex 115 [(.string ⟨⟨s⟩⟩)] H fun v H'=>v=(.bool (cw s))/\H'=H:=
 cq (validNum_c ex s H E A) (by rintro _ _ ⟨_,rfl,rfl,rfl⟩;exact⟨rfl,rfl⟩)
theorem symLen_c(s:List UInt8)(H:Heap)(h0:0<s.length):kKt ex 113 [(.string ⟨⟨s⟩⟩)] H fun v H'=> ∃(r:Nat),H'=H/\v= .int .i64 (r:Int)/\r=bJ s:=by
 refine av Tryz.func113 rfl rfl (aj 1 rfl (wT 3 [] 2 2 [] [(2,(iI 0))] rfl fun _=>wT 2 [] 6 7 [] [(6,(aG [(.string ⟨⟨[62,62,62]⟩⟩),(.string ⟨⟨[60,60]⟩⟩),(.string ⟨⟨[62,62]⟩⟩),(.string ⟨⟨[60,61]⟩⟩),(.string ⟨⟨[62,61]⟩⟩),(.string ⟨⟨[61,61]⟩⟩),(.string ⟨⟨[33,61]⟩⟩)])),(7,(iI 0))] rfl fun _=>eQ (aj 1 rfl ?_)));refine wT 2 [] 8 8 [] [(8,(.bool true))] rfl fun _=>bI 4 (v:=true) rfl rfl rfl rfl (wT 2 [] 9 9 [4] [(4,(.string ⟨⟨[62,62,62]⟩⟩))] rfl fun _=>wU 1 [] 10 22 [] [(22,(.bool ((decide ((3:Int)<=(s.length:Int)))&&((s.take 3)==([62,62,62]:List UInt8)))))] (fun(A:(decide ((3:Int)<=(s.length:Int)))=true)=>(vA (show(0:Int)<=3 from by(try simp only[BS]at A);(first|omega|(show _<23;omega))) (show(3:Int)<=(((s:List UInt8).length:Nat):Int) from by(try simp only[BS]at A);(first|omega|(show _<23;omega))))) rfl fun _=>zi 1 2 (fun c6=>?_) fun c6=>?_)
 ·try simp only[BS]at c6
  have nn:=(c6).2;refine wT 1 [] 23 24 [2] [(2,(iI 3))] rfl fun _=>ae ⟨.inr rfl,_,rfl,3,rfl,rfl,(by simp only[bJ, *,↓reduceIte,true_or,or_true])⟩
 try simp only[BS]at c6
 first|have nn:=tk3 c6|have nn:=tk2 c6
 refine wU 1 [] 7 7 [25] [(7,(iI 1))] (vi (n:=(1:Int))) rfl fun _=>eQ (aj 1 rfl (wT 2 [] 8 8 [] [(8,(.bool true))] rfl fun _=>bI 4 (v:=true) rfl rfl rfl rfl (wT 2 [] 9 9 [4] [(4,(.string ⟨⟨[60,60]⟩⟩))] rfl fun _=>?_)))
 refine wU 1 [] 10 22 [] [(22,(.bool ((decide ((2:Int)<=(s.length:Int)))&&((s.take 2)==([60,60]:List UInt8)))))] (fun(A:(decide ((2:Int)<=(s.length:Int)))=true)=>(vA (show(0:Int)<=2 from by(try simp only[BS]at A);(first|omega|(show _<23;omega))) (show(2:Int)<=(((s:List UInt8).length:Nat):Int) from by(try simp only[BS]at A);(first|omega|(show _<23;omega))))) rfl fun _=>zi 1 2 (fun E=>?_) fun E=>?_
 ·try simp only[BS]at E
  have nn:=(E).2;refine wT 1 [] 23 24 [2] [(2,(iI 2))] rfl fun _=>ae ⟨.inr rfl,_,rfl,2,rfl,rfl,(by simp only[bJ, *,↓reduceIte,true_or,or_true])⟩
 try simp only[BS]at E
 first|have nn:=tk3 E|have nn:=tk2 E
 refine wU 1 [] 7 7 [25] [(7,(iI 2))] (vi (n:=(2:Int))) rfl fun _=>eQ (aj 1 rfl (wT 2 [] 8 8 [] [(8,(.bool true))] rfl fun _=>bI 4 (v:=true) rfl rfl rfl rfl (wT 2 [] 9 9 [4] [(4,(.string ⟨⟨[62,62]⟩⟩))] rfl fun _=>?_)))
 refine wU 1 [] 10 22 [] [(22,(.bool ((decide ((2:Int)<=(s.length:Int)))&&((s.take 2)==([62,62]:List UInt8)))))] (fun(A:(decide ((2:Int)<=(s.length:Int)))=true)=>(vA (show(0:Int)<=2 from by(try simp only[BS]at A);(first|omega|(show _<23;omega))) (show(2:Int)<=(((s:List UInt8).length:Nat):Int) from by(try simp only[BS]at A);(first|omega|(show _<23;omega))))) rfl fun _=>zi 1 2 (fun O=>?_) fun O=>?_
 ·try simp only[BS]at O
  have nn:=(O).2;refine wT 1 [] 23 24 [2] [(2,(iI 2))] rfl fun _=>ae ⟨.inr rfl,_,rfl,2,rfl,rfl,(by simp only[bJ, *,↓reduceIte,true_or,or_true])⟩
 try simp only[BS]at O
 first|have nn:=tk3 O|have nn:=tk2 O
 refine wU 1 [] 7 7 [25] [(7,(iI 3))] (vi (n:=(3:Int))) rfl fun _=>eQ (aj 1 rfl (wT 2 [] 8 8 [] [(8,(.bool true))] rfl fun _=>bI 4 (v:=true) rfl rfl rfl rfl (wT 2 [] 9 9 [4] [(4,(.string ⟨⟨[60,61]⟩⟩))] rfl fun _=>?_)))
 refine wU 1 [] 10 22 [] [(22,(.bool ((decide ((2:Int)<=(s.length:Int)))&&((s.take 2)==([60,61]:List UInt8)))))] (fun(A:(decide ((2:Int)<=(s.length:Int)))=true)=>(vA (show(0:Int)<=2 from by(try simp only[BS]at A);(first|omega|(show _<23;omega))) (show(2:Int)<=(((s:List UInt8).length:Nat):Int) from by(try simp only[BS]at A);(first|omega|(show _<23;omega))))) rfl fun _=>zi 1 2 (fun T=>?_) fun T=>?_
 ·try simp only[BS]at T
  have nn:=(T).2;refine wT 1 [] 23 24 [2] [(2,(iI 2))] rfl fun _=>ae ⟨.inr rfl,_,rfl,2,rfl,rfl,(by simp only[bJ, *,↓reduceIte,true_or,or_true])⟩
 try simp only[BS]at T
 first|have nn:=tk3 T|have nn:=tk2 T
 refine wU 1 [] 7 7 [25] [(7,(iI 4))] (vi (n:=(4:Int))) rfl fun _=>eQ (aj 1 rfl (wT 2 [] 8 8 [] [(8,(.bool true))] rfl fun _=>bI 4 (v:=true) rfl rfl rfl rfl (wT 2 [] 9 9 [4] [(4,(.string ⟨⟨[62,61]⟩⟩))] rfl fun _=>?_)))
 refine wU 1 [] 10 22 [] [(22,(.bool ((decide ((2:Int)<=(s.length:Int)))&&((s.take 2)==([62,61]:List UInt8)))))] (fun(A:(decide ((2:Int)<=(s.length:Int)))=true)=>(vA (show(0:Int)<=2 from by(try simp only[BS]at A);(first|omega|(show _<23;omega))) (show(2:Int)<=(((s:List UInt8).length:Nat):Int) from by(try simp only[BS]at A);(first|omega|(show _<23;omega))))) rfl fun _=>zi 1 2 (fun U=>?_) fun U=>?_
 ·try simp only[BS]at U
  have nn:=(U).2;refine wT 1 [] 23 24 [2] [(2,(iI 2))] rfl fun _=>ae ⟨.inr rfl,_,rfl,2,rfl,rfl,(by simp only[bJ, *,↓reduceIte,true_or,or_true])⟩
 try simp only[BS]at U
 first|have nn:=tk3 U|have nn:=tk2 U
 refine wU 1 [] 7 7 [25] [(7,(iI 5))] (vi (n:=(5:Int))) rfl fun _=>eQ (aj 1 rfl (wT 2 [] 8 8 [] [(8,(.bool true))] rfl fun _=>bI 4 (v:=true) rfl rfl rfl rfl (wT 2 [] 9 9 [4] [(4,(.string ⟨⟨[61,61]⟩⟩))] rfl fun _=>?_)))
 refine wU 1 [] 10 22 [] [(22,(.bool ((decide ((2:Int)<=(s.length:Int)))&&((s.take 2)==([61,61]:List UInt8)))))] (fun(A:(decide ((2:Int)<=(s.length:Int)))=true)=>(vA (show(0:Int)<=2 from by(try simp only[BS]at A);(first|omega|(show _<23;omega))) (show(2:Int)<=(((s:List UInt8).length:Nat):Int) from by(try simp only[BS]at A);(first|omega|(show _<23;omega))))) rfl fun _=>zi 1 2 (fun V=>?_) fun V=>?_
 ·try simp only[BS]at V
  have nn:=(V).2;refine wT 1 [] 23 24 [2] [(2,(iI 2))] rfl fun _=>ae ⟨.inr rfl,_,rfl,2,rfl,rfl,(by simp only[bJ, *,↓reduceIte,true_or,or_true])⟩
 try simp only[BS]at V
 first|have nn:=tk3 V|have nn:=tk2 V
 refine wU 1 [] 7 7 [25] [(7,(iI 6))] (vi (n:=(6:Int))) rfl fun _=>eQ (aj 1 rfl (wT 2 [] 8 8 [] [(8,(.bool true))] rfl fun _=>bI 4 (v:=true) rfl rfl rfl rfl (wT 2 [] 9 9 [4] [(4,(.string ⟨⟨[33,61]⟩⟩))] rfl fun _=>?_)))
 refine wU 1 [] 10 22 [] [(22,(.bool ((decide ((2:Int)<=(s.length:Int)))&&((s.take 2)==([33,61]:List UInt8)))))] (fun(A:(decide ((2:Int)<=(s.length:Int)))=true)=>(vA (show(0:Int)<=2 from by(try simp only[BS]at A);(first|omega|(show _<23;omega))) (show(2:Int)<=(((s:List UInt8).length:Nat):Int) from by(try simp only[BS]at A);(first|omega|(show _<23;omega))))) rfl fun _=>zi 1 2 (fun Y=>?_) fun Y=>?_
 ·try simp only[BS]at Y
  have nn:=(Y).2;refine wT 1 [] 23 24 [2] [(2,(iI 2))] rfl fun _=>ae ⟨.inr rfl,_,rfl,2,rfl,rfl,(by simp only[bJ, *,↓reduceIte,true_or,or_true])⟩
 try simp only[BS]at Y
 first|have nn:=tk3 Y|have nn:=tk2 Y
 refine wU 1 [] 7 7 [25] [(7,(iI 7))] (vi (n:=(7:Int))) rfl fun _=>eQ (aj 1 rfl (wT 2 [] 8 8 [] [(8,(.bool false))] rfl fun _=>kM 6 (v:=false) rfl rfl rfl rfl (wT 2 [] 1 0 [5] [(5,(iI 0))] rfl fun _=>?_)))
 refine aq (fun(mm:Nat) f H'=> ∃(i:Nat),H'=H/\aN f [(0,(.string ⟨⟨s⟩⟩)),(5,(iI (i:Int)))]/\mm=23-i/\(i<=23)/\(∀j,j<i->s.getD 0 0≠dj.getD j 0)) _ ⟨0,rfl,⟨rfl,rfl,trivial⟩,rfl,(by omega),(by intro j hj;omega)⟩ ?_;rintro a4 a5 H ⟨i,rfl,an,rfl,h1,h2⟩ ar;refine aC _ an (fun _=>?_);clear an;refine aj 2 rfl (wT 1 [] 26 27 [] [(27,(.bool (decide ((i:Int)<23))))] rfl fun _=>zd 4 5 (fun ax=>?_) fun ax=>?_)
 ·have a2:=fG (s.getD 0 0);have a3:=fG (([43,45,42,47,37,38,124,94,126,33,60,62,61,63,58,59,44,40,41,123,125,91,93]:List UInt8).getD i 0);refine wRD 1 [] 30 34 [] [(34,(.bool (((s.getD 0 0).toNat:Int)==((([43,45,42,47,37,38,124,94,126,33,60,62,61,63,58,59,44,40,41,123,125,91,93]:List UInt8).getD i 0).toNat:Int))))] (vA (vA (show(0:Int)<=0 from by omega) (show(0:Int)<(((s:List UInt8).length:Nat):Int) from by omega)) (vA (vA (show(0:Int)<=(i:Int) from by omega) (show(i:Int)<((([43,45,42,47,37,38,124,94,126,33,60,62,61,63,58,59,44,40,41,123,125,91,93]:List UInt8).length:Nat):Int) from by omega)) trivial)) rfl rfl fun _=>zi 1 2 (fun Z=>?_) fun Z=>?_
  ·try simp only[BS]at Z
   have ci:=Z;refine wT 1 [] 2 2 [] [(2,(iI 1))] rfl fun _=>ae ⟨.inr rfl,_,rfl,1,rfl,rfl,(by have ms:=sing_mem (by omega) ci;simp only[bJ, *,↓reduceIte,or_self])⟩
  try simp only[BS]at Z
  have ci:=Z;refine wU 1 [] 28 29 [5] [(5,(iI ((i:Int)+1)))] (vi (n:=(i:Int)+1)) rfl fun _=>?_
  refine ar _ _ _ ?_ ⟨i+1,rfl,⟨rfl,rfl,trivial⟩,rfl,(by omega),(fun j hj=>sing_ne ci h2 hj)⟩;omega
 refine wT 1 [] 2 2 [] [(2,(iI 0))] rfl fun _=>ae ⟨.inr rfl,_,rfl,0,rfl,rfl,(by have ms:=sing_no (fun j hj=>h2 j (by omega));simp only[bJ, *,↓reduceIte,or_self])⟩
theorem symLen_c_q(s:List UInt8)(H:Heap)(A:0<s.length):kKt ex 113 [(.string ⟨⟨s⟩⟩)] H fun v H'=>v=(iI ((bJ s:Nat):Int))/\H'=H:=
 cq (symLen_c ex s H A) (by rintro _ _ ⟨_,rfl,rfl,rfl⟩;exact⟨rfl,rfl⟩)
def spl:Bool->List UInt8->Nat
 |_,[]=>0
 |false,c::s=>if c=32\/c=9\/c=10\/c=13 then 1+spl false s else if c=35 then 1+spl true s else 0
 |true,c::s=>if c=10 then 1+spl false s else 1+spl true s
theorem kR: ∀(s:List UInt8) (b:Bool),spl b s<=s.length
 | [],b=>by simp[spl]
 |c::s,false=>by
  have A:=kR s false;have E:=kR s true
  rw[spl,a03];split
  ·omega
  split<;>omega
 |c::s,true=>by
  have A:=kR s false;have E:=kR s true
  rw[spl,a03];split<;>omega
theorem dropc{s:List UInt8}{n:Nat}(h:n<s.length):s.drop n=s.getD n 0::s.drop (n+1):=by rw[a0G h,a09,a08 h];rfl
theorem u8i{c:UInt8}{k:Nat}(A:k<256)(h:(c.toNat:Int)=(k:Int)):c=UInt8.ofNat k:=by apply UInt8.toNat_inj.mp;rw[UInt8.toNat_ofNat'];omega
theorem u8e{c:UInt8}(k:Nat)(h:c=UInt8.ofNat k)(A:k<256:=by omega):(c.toNat:Int)=(k:Int):=by rw[h,UInt8.toNat_ofNat'];omega
theorem spE{b:Bool}{s:List UInt8}{n:Nat}(h: ¬n<s.length)(A:n<=s.length)(e:n+spl b (s.drop n)=spl false s):n=spl false s:=by rw[List.drop_of_length_le (by omega)]at e;simpa[spl] using e
theorem spA{s:List UInt8}{n:Nat}(h:n<s.length)(c:s.getD n 0=32\/s.getD n 0=9\/s.getD n 0=10\/s.getD n 0=13)(e:n+spl false (s.drop n)=spl false s):n+1+spl false (s.drop (n+1))=spl false s:=by rw[dropc h,spl,if_pos c]at e;omega
theorem spH{s:List UInt8}{n:Nat}(h:n<s.length)(c:s.getD n 0=35)(e:n+spl false (s.drop n)=spl false s):n+spl true (s.drop n)=spl false s:=by rw[dropc h,spl,if_neg (by rw[c];decide),if_pos c]at e;rw[dropc h,spl,if_neg (by rw[c];decide)];exact e
theorem spT{s:List UInt8}{n:Nat}(h:n<s.length)(c:s.getD n 0≠10)(e:n+spl true (s.drop n)=spl false s):n+1+spl true (s.drop (n+1))=spl false s:=by rw[dropc h,spl,if_neg c]at e;omega
theorem spN{s:List UInt8}{n:Nat}(A:n<=s.length)(c:n<s.length->s.getD n 0=10)(e:n+spl true (s.drop n)=spl false s):n+spl false (s.drop n)=spl false s:=by
 by_cases h:n<s.length
 ·rw[dropc h,spl,if_pos (c h)]at e;rw[dropc h,spl,if_pos (.inr (.inr (.inl (c h))))];exact e
 rw[List.drop_of_length_le (by omega)]at e⊢;exact e
theorem spX{s:List UInt8}{n:Nat}(h:n<s.length)(c: ¬(s.getD n 0=32\/s.getD n 0=9\/s.getD n 0=10\/s.getD n 0=13))(c2:s.getD n 0≠35)(e:n+spl false (s.drop n)=spl false s):n=spl false s:=by rw[dropc h,spl,if_neg c,if_neg c2]at e;exact e
theorem spaceLen_c(s:List UInt8)(H:Heap)(hl:s.length<4611686018427387904):kKt ex 76 [(.string ⟨⟨s⟩⟩)] H fun v H'=> ∃(r:Nat),H'=H/\v= .int .i64 (r:Int)/\r=spl false s:=by
 refine av Tryz.func76 rfl rfl (aj 1 rfl (wT 2 [] 2 2 [] [(2,(iI 0))] rfl fun _=>wT 3 [] 1 0 [3] [(3,(iI 0))] rfl fun _=>aq (fun(mm:Nat) f H'=> ∃(n:Nat),H'=H/\aN f [(0,(.string ⟨⟨s⟩⟩)),(3,(iI (n:Int)))]/\mm=s.length-n/\(n<=s.length)/\(n+spl false (s.drop n)=spl false s)) _ ⟨0,rfl,⟨rfl,rfl,trivial⟩,rfl,(by omega),(by simp)⟩ ?_));rintro bb f3 H ⟨n,rfl,a1,rfl,h1,T⟩ O;refine aC _ a1 (fun _=>?_);clear a1;refine aj 2 rfl (wT 1 [] 4 7 [] [(7,(.bool (decide ((n:Int)<(s.length:Int)))))] rfl fun _=>zd 3 5 (fun c5=>?_) fun c5=>?_)
 ·have a9:=fG (s.getD n 0);refine wU 4 [] 8 10 [] [(10,(.int .u8 ((s.getD n 0).toNat:Int)))] (vA (show(0:Int)<=(n:Int) from by omega) (show(n:Int)<(((s:List UInt8).length:Nat):Int) from by omega)) rfl fun _=>wT 1 [] 12 13 [] [(12,(.bool (((s.getD n 0).toNat:Int)==32)))] rfl fun _=>zi 1 1 (fun U=>?_) fun U=>?_
  ·have c9:=U;try simp only[BS]at c9
   refine bI 0 (v:=(((s.getD n 0).toNat:Int)==32)) rfl U rfl rfl (wU 3 [] 17 18 [3] [(3,(iI ((n:Int)+1)))] (vi (n:=(n:Int)+1)) rfl fun _=>?_);refine O _ _ _ ?_ ⟨n+1,rfl,⟨rfl,rfl,trivial⟩,rfl,(by omega),(spA (by omega) (.inl (u8i (k:=32) (by omega) (by omega))) T)⟩;omega
  have c9:=U;try simp only[BS]at c9
  refine wT 1 [] 12 14 [] [(12,(.bool (((s.getD n 0).toNat:Int)==9)))] rfl fun _=>zi 1 1 (fun A=>?_) fun A=>?_
  ·have V:=A;try simp only[BS]at V
   refine bI 0 (v:=(((s.getD n 0).toNat:Int)==9)) rfl A rfl rfl (wU 3 [] 17 18 [3] [(3,(iI ((n:Int)+1)))] (vi (n:=(n:Int)+1)) rfl fun _=>?_);refine O _ _ _ ?_ ⟨n+1,rfl,⟨rfl,rfl,trivial⟩,rfl,(by omega),(spA (by omega) (.inr (.inl (u8i (k:=9) (by omega) (by omega)))) T)⟩;omega
  have V:=A;try simp only[BS]at V
  refine wT 1 [] 12 15 [] [(12,(.bool (((s.getD n 0).toNat:Int)==10)))] rfl fun _=>zi 1 0 (fun E=>?_) fun E=>?_
  ·have Y:=E;try simp only[BS]at Y
   refine bI 0 (v:=(((s.getD n 0).toNat:Int)==10)) rfl E rfl rfl (wU 3 [] 17 18 [3] [(3,(iI ((n:Int)+1)))] (vi (n:=(n:Int)+1)) rfl fun _=>?_);refine O _ _ _ ?_ ⟨n+1,rfl,⟨rfl,rfl,trivial⟩,rfl,(by omega),(spA (by omega) (.inr (.inr (.inl (u8i (k:=10) (by omega) (by omega))))) T)⟩;omega
  have Y:=E;try simp only[BS]at Y
  refine wT 1 [] 12 16 [] [(12,(.bool (((s.getD n 0).toNat:Int)==13)))] rfl fun _=>zi 0 1 (fun Z=>?_) fun Z=>?_
  ·try simp only[BS]at Z
   refine wU 3 [] 17 18 [3] [(3,(iI ((n:Int)+1)))] (vi (n:=(n:Int)+1)) rfl fun _=>?_
   refine O _ _ _ ?_ ⟨n+1,rfl,⟨rfl,rfl,trivial⟩,rfl,(by omega),(spA (by omega) (.inr (.inr (.inr (u8i (k:=13) (by omega) (by omega))))) T)⟩;omega
  try simp only[BS]at Z
  refine wT 1 [] 19 20 [] [(19,(.bool (((s.getD n 0).toNat:Int)==35)))] rfl fun _=>zi 1 1 (fun al=>?_) fun al=>?_
  ·try simp only[BS]at al
   refine aq (fun(mm:Nat) f H'=> ∃(m:Nat),H'=H/\aN f [(0,(.string ⟨⟨s⟩⟩)),(3,(iI (m:Int)))]/\mm=s.length-m/\(m<=s.length)/\(m+spl true (s.drop m)=spl false s)/\(n<=m)) _ ⟨n,rfl,⟨rfl,rfl,trivial⟩,rfl,(by omega),(spH (by omega) (u8i (k:=35) (by omega) (by omega)) T),(by omega)⟩ ?_;rintro a8 ba H ⟨m,rfl,ar,rfl,g1,g2,g3⟩ a3;refine aC _ ar (fun _=>?_);clear ar;refine aj 2 rfl ?_;have a5:=fG (s.getD m 0);refine wU 1 [] 21 30 [] [(30,(.bool ((decide ((m:Int)<(s.length:Int)))&&(((s.getD m 0).toNat:Int) !=10))))] (fun(g1:(decide ((m:Int)<(s.length:Int)))=true)=>(vA (show(0:Int)<=(m:Int) from by(try simp only[BS]at g1);omega) (show(m:Int)<(((s:List UInt8).length:Nat):Int) from by(try simp only[BS]at g1);omega))) rfl fun _=>zi 2 6 (fun an=>?_) fun an=>?_
   ·try simp only[BS]at an
    refine wU 2 [] 31 32 [3] [(3,(iI ((m:Int)+1)))] (vi (n:=(m:Int)+1)) rfl fun _=>?_
    refine a3 _ _ _ ?_ ⟨m+1,rfl,⟨rfl,rfl,trivial⟩,rfl,(by omega),(spT (by omega) (fun h=>by have:=u8e 10 h;omega) g2),(by omega)⟩;omega
   try simp only[BS]at an
   have gm:n<m:=by
    rcases a0k n m with h|h
    ·exact h
    exfalso;have e:m=n:=by omega
    subst e;omega
   refine O _ _ _ ?_ ⟨m,rfl,⟨rfl,rfl,trivial⟩,rfl,(by omega),(spN g1 (fun h=>(u8i (k:=10) (by omega) (by omega))) g2)⟩;omega
  try simp only[BS]at al
  refine wT 1 [] 2 2 [11] [(2,(iI (n:Int)))] rfl fun _=>ae ⟨.inr rfl,_,rfl,n,rfl,rfl,(by exact spX (by omega) (by rintro(h|h|h|h)<;>(first|(have:=u8e 32 h;omega)|(have:=u8e 9 h;omega)|(have:=u8e 10 h;omega)|(have:=u8e 13 h;omega))) (fun h=>by have:=u8e 35 h;omega) T)⟩
 refine wT 1 [] 2 2 [33] [(2,(iI (n:Int)))] rfl fun _=>ae ⟨.inr rfl,_,rfl,n,rfl,rfl,(spE (by omega) h1 T)⟩
theorem iU(s:List UInt8)(H:Heap)(A:s.length<4611686018427387904):kKt ex 76 [(.string ⟨⟨s⟩⟩)] H fun v H'=>v=(iI ((spl false s:Nat):Int))/\H'=H:=
 cq (spaceLen_c ex s H A) (by rintro _ _ ⟨_,rfl,rfl,rfl⟩;exact⟨rfl,rfl⟩)
def ap(s:List UInt8):Int×List UInt8×Int:=
 if aE s=0 then(if bJ s=0 then(0,[],2) else(3,s.take (bJ s),0))
 else if bH (s.getD 0 0)=true then(if cw (s.take (aE s))=true then(2,s.take (aE s),0) else(0,[],2))
 else if 16<aE s then(0,[],6) else(1,s.take (aE s),0)
theorem symLen_le{s:List UInt8}(E:0<s.length):bJ s<=s.length:=by
 have A: ∀{w:List UInt8} {n:Nat},s.take n=w->w.length=n->n<=s.length:=by intro w n e O;have:=congrArg List.length e;rw[a0O]at this;omega
 rw[bJ];split
 ·exact A ‹_› rfl
 split
 ·rename_i h;rcases h with h|h|h|h|h|h<;>exact A h rfl
 split<;>omega
theorem first_c(s:List UInt8)(hs:HS (.of H []) F H [] R)(h0:0<s.length)(hl:s.length<4611686018427387904):kKt ex 77 [(.string ⟨⟨s⟩⟩)] H fun v H'=> ∃(t:Token) (e:Int) (F':Fz),Fz.le F F'/\HS (.of H []) F' H' [] R/\v= .tuple ⟨[.agg ⟨[.int .i64 t.kind,.string ⟨⟨t.text.b⟩⟩,.int .i64 t.at_]⟩,.int .i64 e]⟩/\in64 t.kind/\in64 t.at_/\t=Token.mk (ap s).1 (Str.mk (ap s).2.1) 0/\e=(ap s).2.2:=by
 have hw:=iB s;have hy:=symLen_le h0;refine av Tryz.func77 rfl rfl (aj 1 rfl (ab (aw (aH hs rfl) rfl rfl ?_)));rintro _ H2 _ ⟨b1,rfl,(A:HS _ _ _ [(fP b1 [(iI 0),(.string ⟨⟨[]⟩⟩),(iI 0)])] _),_⟩;refine za (iI 0) (ad 2 rfl (wU 4 [(1,.o (iI ((aE s:Nat):Int)))] 5 6 [4] [(4,(iI ((aE s:Nat):Int)))] (wordLen_c_q ex s H2 (by omega)) rfl fun _=>wT 1 [] 7 9 [] [(7,(.bool (((aE s:Nat):Int)==0)))] rfl fun _=>zi 2 1 (fun c5=>?_) fun c5=>?_))
 ·try simp only[BS]at c5
  have z0:aE s=0:=by omega
  refine wU 2 [(1,.o (iI ((bJ s:Nat):Int)))] 10 11 [4] [(4,(iI ((bJ s:Nat):Int)))] (symLen_c_q ex s H2 (by omega)) rfl fun _=>wT 1 [] 12 13 [] [(13,(.bool (((bJ s:Nat):Int)==0)))] rfl fun _=>zi 1 2 (fun c8=>?_) fun c8=>?_
  ·try simp only[BS]at c8
   have z1:bJ s=0:=by omega
   refine ab (wTo 1 0 [] 14 14 [] [(14,(aG [(iI 0),(.string ⟨⟨[]⟩⟩),(iI 0)]))] rfl fun _=>ay (am (q:=0) A rfl rfl rfl rfl rfl rfl rfl rfl rfl) rfl ?_);rintro _ ba _ ⟨(T:HS _ _ _ [_] _),_⟩;refine za (iI 2) (ad 1 rfl (ae ⟨.inr rfl,_,(rC rfl (cM rfl rfl (HS.hc T (i:=0) rfl) rfl) (rT rfl rN)),(⟨0,⟨[]⟩,0⟩:Token),2,_,fR,(HS.forget T),rfl,(by(dsimp only;omega)),(by(dsimp only;omega)),(by simp only[ap, *,↓reduceIte,a0g,not_false_eq_true]),(by simp only[ap, *,↓reduceIte,a0g,not_false_eq_true])⟩))
  try simp only[BS]at c8
  have z1: ¬bJ s=0:=by omega
  refine ab (wUo 4 0 [] 15 18 [] [(18,(aG [(iI 3),(.string ⟨⟨s.take (bJ s)⟩⟩),(iI 0)]))] (vA (show(0:Int)<=((bJ s:Nat):Int) from by omega) (show((bJ s:Nat):Int)<=(((s:List UInt8).length:Nat):Int) from by omega)) rfl fun _=>ay (am (q:=0) A rfl rfl rfl rfl rfl rfl rfl rfl rfl) rfl ?_);rintro _ bb _ ⟨(U:HS _ _ _ [(fP b1 [(iI 3),(.string ⟨⟨s.take (bJ s)⟩⟩),(iI 0)])] _),_⟩;refine za (iI 0) (ad 1 rfl (ae ⟨.inr rfl,_,(rC rfl (cM rfl rfl (HS.hc U (i:=0) rfl) rfl) (rT rfl rN)),(⟨3,⟨s.take (bJ s)⟩,0⟩:Token),0,_,fR,(HS.forget U),rfl,(by(dsimp only;omega)),(by(dsimp only;omega)),(by simp only[ap, *,↓reduceIte,a0g,not_false_eq_true]),(by simp only[ap, *,↓reduceIte,a0g,not_false_eq_true])⟩))
 try simp only[BS]at c5
 have z0: ¬aE s=0:=by omega
 have a3:=fG (s.getD 0 0);refine wR 1 [(2,.o (.bool (bH (s.getD 0 0))))] 19 22 [] [(19,(.bool (bH (s.getD 0 0))))] (vA (vA (show(0:Int)<=0 from by omega) (show(0:Int)<(((s:List UInt8).length:Nat):Int) from by omega)) (vA (gT ex (s.getD 0 0) H2) trivial)) rfl fun _=>zi 2 1 (fun E=>?_) fun E=>?_
 ·try simp only[BS]at E
  have z2:bH (s.getD 0 0)=true:=E;refine wR 1 [(3,.o (.bool (cw (s.take (aE s)))))] 23 27 [] [(27,(.bool (!(cw (s.take (aE s))))))] (vA (vA (show(0:Int)<=((aE s:Nat):Int) from by omega) (show((aE s:Nat):Int)<=(((s:List UInt8).length:Nat):Int) from by omega)) (vA (validNum_c_q ex (s.take (aE s)) H2 (by(rw[a0O];omega)) (by(rw[a0O];omega))) trivial)) rfl fun _=>zi 1 2 (fun O=>?_) fun O=>?_
  ·try simp only[BS]at O
   have z3:cw (s.take (aE s))=false:=by simpa using O
   refine ab (wTo 1 0 [] 28 28 [] [(28,(aG [(iI 0),(.string ⟨⟨[]⟩⟩),(iI 0)]))] rfl fun _=>ay (am (q:=0) A rfl rfl rfl rfl rfl rfl rfl rfl rfl) rfl ?_);rintro _ bf _ ⟨(V:HS _ _ _ [_] _),_⟩;refine za (iI 2) (ad 1 rfl (ae ⟨.inr rfl,_,(rC rfl (cM rfl rfl (HS.hc V (i:=0) rfl) rfl) (rT rfl rN)),(⟨0,⟨[]⟩,0⟩:Token),2,_,fR,(HS.forget V),rfl,(by(dsimp only;omega)),(by(dsimp only;omega)),(by simp only[ap, *,↓reduceIte,a0g,not_false_eq_true]),(by simp only[ap, *,↓reduceIte,a0g,not_false_eq_true])⟩))
  try simp only[BS]at O
  have z3:cw (s.take (aE s))=true:=by simpa using O
  refine ab (wUo 4 0 [] 29 32 [] [(32,(aG [(iI 2),(.string ⟨⟨s.take (aE s)⟩⟩),(iI 0)]))] (vA (show(0:Int)<=((aE s:Nat):Int) from by omega) (show((aE s:Nat):Int)<=(((s:List UInt8).length:Nat):Int) from by omega)) rfl fun _=>ay (am (q:=0) A rfl rfl rfl rfl rfl rfl rfl rfl rfl) rfl ?_);rintro _ bk _ ⟨(Y:HS _ _ _ [(fP b1 [(iI 2),(.string ⟨⟨s.take (aE s)⟩⟩),(iI 0)])] _),_⟩;refine za (iI 0) (ad 1 rfl (ae ⟨.inr rfl,_,(rC rfl (cM rfl rfl (HS.hc Y (i:=0) rfl) rfl) (rT rfl rN)),(⟨2,⟨s.take (aE s)⟩,0⟩:Token),0,_,fR,(HS.forget Y),rfl,(by(dsimp only;omega)),(by(dsimp only;omega)),(by simp only[ap, *,↓reduceIte,a0g,not_false_eq_true]),(by simp only[ap, *,↓reduceIte,a0g,not_false_eq_true])⟩))
 try simp only[BS]at E
 have z2:bH (s.getD 0 0)=false:=E;refine wT 1 [] 33 35 [] [(33,(.bool (decide ((16:Int)<((aE s:Nat):Int)))))] rfl fun _=>zd 1 3 (fun a2=>?_) fun a2=>?_
 ·have z4:16<aE s:=by omega
  refine ab (wTo 1 0 [] 36 36 [] [(36,(aG [(iI 0),(.string ⟨⟨[]⟩⟩),(iI 0)]))] rfl fun _=>ay (am (q:=0) A rfl rfl rfl rfl rfl rfl rfl rfl rfl) rfl ?_);rintro _ bl _ ⟨(Z:HS _ _ _ [_] _),_⟩;refine za (iI 6) (ad 1 rfl (ae ⟨.inr rfl,_,(rC rfl (cM rfl rfl (HS.hc Z (i:=0) rfl) rfl) (rT rfl rN)),(⟨0,⟨[]⟩,0⟩:Token),6,_,fR,(HS.forget Z),rfl,(by(dsimp only;omega)),(by(dsimp only;omega)),(by simp only[ap, *,↓reduceIte,a0g,not_false_eq_true]),(by simp only[ap, *,↓reduceIte,a0g,not_false_eq_true])⟩))
 have z4: ¬16<aE s:=by omega
 refine ab (wUo 4 0 [] 37 40 [] [(40,(aG [(iI 1),(.string ⟨⟨s.take (aE s)⟩⟩),(iI 0)]))] (vA (show(0:Int)<=((aE s:Nat):Int) from by omega) (show((aE s:Nat):Int)<=(((s:List UInt8).length:Nat):Int) from by omega)) rfl fun _=>ay (am (q:=0) A rfl rfl rfl rfl rfl rfl rfl rfl rfl) rfl ?_);rintro _ bn _ ⟨(al:HS _ _ _ [(fP b1 [(iI 1),(.string ⟨⟨s.take (aE s)⟩⟩),(iI 0)])] _),_⟩;refine za (iI 0) (ad 1 rfl (ae ⟨.inr rfl,_,(rC rfl (cM rfl rfl (HS.hc al (i:=0) rfl) rfl) (rT rfl rN)),(⟨1,⟨s.take (aE s)⟩,0⟩:Token),0,_,fR,(HS.forget al),rfl,(by(dsimp only;omega)),(by(dsimp only;omega)),(by simp only[ap, *,↓reduceIte,a0g,not_false_eq_true]),(by simp only[ap, *,↓reduceIte,a0g,not_false_eq_true])⟩))
theorem take_len{s:List UInt8}{n:Nat}(h:n<=s.length):(s.take n).length=n:=by rw[a0O];omega
theorem lh{s:List UInt8}(A:0<s.length):(ap s).2.1.length<=s.length/\((ap s).2.2=0->0<(ap s).2.1.length)/\0<=(ap s).2.2/\(ap s).2.2<10:=by
 have E:=iB s;have O:=symLen_le A;have l1:=take_len E;have l2:=take_len O;rw[ap];split
 ·split
  ·simp
  dsimp only;omega
 split
 ·split
  ·dsimp only;omega
  simp
 split
 ·simp
 dsimp only;omega
abbrev Sc:=List Token×Int×Int
def consT(t:Token)(r:Sc):Sc:=if r.2.1=0 then(t::r.1,r.2) else r
def preT(l:List Token)(r:Sc):Sc:=if r.2.1=0 then(l++r.1,r.2) else r
def cE:Nat->List UInt8->Nat->Sc
 |0,_,_=>([],0,0)
 |f+1,s,at_=>
  if at_<s.length then
   if(ap (s.drop at_)).2.2=0 then
    consT ⟨(ap (s.drop at_)).1,⟨(ap (s.drop at_)).2.1⟩,at_⟩ (cE f s (at_+(ap (s.drop at_)).2.1.length+spl false (s.drop (at_+(ap (s.drop at_)).2.1.length))))
   else([],(ap (s.drop at_)).2.2,at_)
  else([],0,0)
def aB(s:List UInt8):Sc:=if 20000<s.length then([],6,20000) else cE (s.length+1) s (spl false s)
theorem pre_cons(l:List Token)(t:Token)(r:Sc):preT l (consT t r)=preT (l++[t]) r:=by
 unfold preT consT;by_cases h:r.2.1=0
 ·simp[h]
 simp[h]
theorem pre_nil(r:Sc):preT [] r=r:=by unfold preT;split<;>rfl
theorem scan_step{s:List UInt8}{at_ f:Nat}{l:List Token}{R:Sc}(h:at_<s.length)(E:s.length-at_<f)(e:(ap (s.drop at_)).2.2=0)(A:preT l (cE f s at_)=R):
  preT (l++[⟨(ap (s.drop at_)).1,⟨(ap (s.drop at_)).2.1⟩,at_⟩]) (cE (f-1) s (at_+(ap (s.drop at_)).2.1.length+spl false (s.drop (at_+(ap (s.drop at_)).2.1.length))))=R:=by
 obtain⟨g,rfl⟩: ∃g,f=g+1:=⟨f-1,by omega⟩
 rw[cE,if_pos h,if_pos e,pre_cons]at A
 exact A
theorem scan_err{s:List UInt8}{at_ f:Nat}{l:List Token}{R:Sc}(h:at_<s.length)(E:s.length-at_<f)(e:(ap (s.drop at_)).2.2≠0)(A:preT l (cE f s at_)=R):R=([],(ap (s.drop at_)).2.2,(at_:Int)):=by
 obtain⟨g,rfl⟩: ∃g,f=g+1:=⟨f-1,by omega⟩
 rw[cE,if_pos h,if_neg e,preT,if_neg (e)]at A;exact A.symm
theorem scan_end{s:List UInt8}{at_ f:Nat}{l:List Token}{R:Sc}(h: ¬at_<s.length)(A:preT l (cE f s at_)=R):R=(l,0,0):=by
 have:cE f s at_=([],0,0):=by
  cases f with
  |zero=>rfl
  |succ f=>rw[cE,if_neg h]
 rw[this,preT,if_pos rfl,a0p]at A;exact A.symm
theorem scan_c(s:List UInt8)(hs:HS (.of H []) F H [] R)(hl:s.length<4611686018427387904):kKt ex 37 [(.string ⟨⟨s⟩⟩)] H fun v H'=> ∃(al:Option Addr) (kl:Nat) (l:List Token) (p:Fp) (e:ErrT) (F':Fz),Fz.le F F'/\HS (.of H []) F' H' [p] R/\v= .tuple ⟨[sL al l.length kl,.agg ⟨[.int .i64 e.why,.int .i64 e.at_]⟩]⟩/\OS F' (sL al l.length kl) l p/\in64 e.why/\in64 e.at_/\l=(aB s).1/\e=ErrT.mk (aB s).2.1 (aB s).2.2:=by
 refine av Tryz.func37 rfl rfl (aj 1 rfl (ab (za (sL none 0 0) (aw (aH hs rfl) rfl rfl ?_))));rintro _ H2 _ ⟨b1,rfl,(bf:HS _ _ _ [(fP b1 [(iI 0),(iI 0)])] _),_⟩;refine ad 3 rfl (wT 1 [] 8 10 [] [(10,(.bool (decide ((20000:Int)<(s.length:Int)))))] rfl fun _=>zd 1 2 (fun c4=>?_) fun c4=>?_)
 ·refine ab (wTo 2 0 [] 2 2 [11] [(2,(sL none 0 0)),(11,(aG [(iI 6),(iI 20000)]))] rfl fun _=>ay (am (q:=0) bf rfl rfl rfl rfl rfl rfl rfl rfl rfl) rfl ?_);rintro _ H6 _ ⟨(bk:HS _ _ _ [(fP b1 [(iI 6),(iI 20000)])] _),_⟩;refine ad 1 rfl (ae ⟨.inr rfl,_,(rT rfl (rC rfl (cM rfl rfl (HS.hc bk (i:=0) rfl) rfl) rN)),none,0,([]:List Token),[],(⟨6,20000⟩:ErrT),_,fR,(HS.cons (HS.forget bk)),rfl,(OS.nil:OS _ _ _ []),(by(dsimp only;omega)),(by(dsimp only;omega)),(by rw[aB,if_pos (by omega)]),(by rw[aB,if_pos (by omega)])⟩)
 refine wT 3 [] 1 0 [4] [(4,(sL none 0 0))] rfl fun _=>wU 2 [(1,.o (iI ((spl false s:Nat):Int)))] 12 13 [5] [(5,(iI ((spl false s:Nat):Int)))] (iU ex s H2 (by omega)) rfl fun _=>?_
 have V:=HS.snoc bf;have V:HS _ _ _ [_,[]] _:=V;refine aq (fun(mm:Nat) f H'=> ∃(at_:Nat) (l:List Token) (fu:Nat) (A:Option Addr) (E:Nat) (O:Fp) (F':Fz),Fz.le F F'/\HS (Base.of H []) F' H' [(fP b1 [(iI 0),(iI 0)]),O] R/\OS F' (sL A l.length E) l O/\aN f [(0,(.string ⟨⟨s⟩⟩)),(3,(pT b1 0)),(4,(sL A l.length E)),(5,(iI (at_:Int)))]/\mm=s.length-at_/\(at_<=s.length)/\(s.length-at_<fu)/\(preT l (cE fu s at_)=aB s)/\(l.length<=at_)) _ ⟨spl false s,([]:List Token),s.length+1,none,0,[],_,fR,V,(OS.nil:OS _ (sL none 0 0) ([]:List Token) []),⟨rfl,rfl,rfl,rfl,trivial⟩,rfl,(kR s false),(by omega),(by rw[aB,if_neg (by omega)];(first|done|exact pre_nil _)),(a0B _)⟩ ?_;rintro dn f9 H9 ⟨at_,l,fu,A,E,O,F9,a1,a8,T,bb,rfl,h1,hf,h2,h3⟩ b6;refine aC _ bb (fun _=>?_);clear bb;refine aj 2 rfl (wT 1 [] 14 17 [] [(17,(.bool (decide ((at_:Int)<(s.length:Int)))))] rfl fun _=>zd 4 5 (fun b5=>?_) fun b5=>?_)
 ·have hd:(s.drop at_).length=s.length-at_:=a0V ..;have q:=lh (s:=s.drop at_) (by omega);have sp:=kR (s.drop (at_+(ap (s.drop at_)).2.1.length)) false;rw[a0V]at sp;refine ab (wUo 3 0 [] 25 27 [] [(27,(.string ⟨⟨s.drop at_⟩⟩))] (vA (show(0:Int)<=(at_:Int) from by omega) (show(at_:Int)<=(((s:List UInt8).length:Nat):Int) from by omega)) rfl fun _=>zc (first_c ex (s.drop at_) (HS.call a8) (by omega) (by omega)) ?_);rintro _ ci ⟨ds,c9,ch,U,Y,rfl,b2,b3,rfl,rfl⟩;replace Y:HS _ _ _ [_,O] _:=HS.back a8 rfl Y;replace T:=T.mono U;refine wTo 3 4 [] 29 30 [24] [(29,(aG [(iI ((Token.mk (ap (s.drop at_)).1 (Str.mk (ap (s.drop at_)).2.1) 0).kind)),(.string ⟨⟨(Token.mk (ap (s.drop at_)).1 (Str.mk (ap (s.drop at_)).2.1) 0).text.b⟩⟩),(iI ((Token.mk (ap (s.drop at_)).1 (Str.mk (ap (s.drop at_)).2.1) 0).at_))])),(30,(iI ((ap (s.drop at_)).2.2)))] rfl fun _=>aw (aH Y rfl) rfl rfl ?_
  rintro _ co _ ⟨Z,rfl,(b0:HS _ _ _ [_,_,(fP Z [(iI 0),(.string ⟨⟨[]⟩⟩),(iI 0)])] _),_⟩;refine ay (am (q:=2) b0 rfl rfl rfl rfl rfl rfl rfl rfl rfl) rfl ?_;rintro _ c0 _ ⟨(a2:HS _ _ _ [_,_,(fP Z [(iI ((Token.mk (ap (s.drop at_)).1 (Str.mk (ap (s.drop at_)).2.1) 0).kind)),(.string ⟨⟨(Token.mk (ap (s.drop at_)).1 (Str.mk (ap (s.drop at_)).2.1) 0).text.b⟩⟩),(iI ((Token.mk (ap (s.drop at_)).1 (Str.mk (ap (s.drop at_)).2.1) 0).at_))])] _),_⟩;refine za (iI ((ap (s.drop at_)).2.2)) (ad 3 rfl (wT 1 [] 31 32 [] [(32,(.bool ((ap (s.drop at_)).2.2 !=0)))] rfl fun _=>zi 1 2 (fun ar=>?_) fun ar=>?_))
  ·try simp only[BS]at ar
   refine ab (wTo 4 0 [] 33 35 [2] [(2,(sL none 0 0)),(35,(aG [(iI ((ap (s.drop at_)).2.2)),(iI (at_:Int))]))] rfl fun _=>ay (am (q:=0) a2 rfl rfl rfl rfl rfl rfl rfl rfl rfl) rfl ?_);rintro _ c3 _ ⟨(a3:HS _ _ _ [(fP b1 [(iI ((ap (s.drop at_)).2.2)),(iI (at_:Int))]),_,_] _),_⟩;refine ad 1 rfl (ae ⟨.inr rfl,_,(rT rfl (rC rfl (cM rfl rfl (HS.hc a3 (i:=0) rfl) rfl) rN)),none,0,([]:List Token),[],(⟨(ap (s.drop at_)).2.2,(at_:Int)⟩:ErrT),_,(fT (a1) U),(HS.cons (HS.forget a3)),rfl,(OS.nil:OS _ _ _ []),(by(dsimp only;omega)),(by(dsimp only;omega)),(by rw[scan_err (by omega) hf (by omega) h2]),(by rw[scan_err (by omega) hf (by omega) h2])⟩)
  try simp only[BS]at ar
  refine ab (wTo 2 0 [] 36 37 [] [(36,(iI (at_:Int))),(37,(pT Z 2))] rfl fun _=>ay (am (q:=2) a2 rfl rfl rfl rfl rfl rfl rfl rfl rfl) rfl ?_);rintro _ c5 _ ⟨(a4:HS _ _ _ [_,_,(fP Z [(iI ((Token.mk (ap (s.drop at_)).1 (Str.mk (ap (s.drop at_)).2.1) 0).kind)),(.string ⟨⟨(Token.mk (ap (s.drop at_)).1 (Str.mk (ap (s.drop at_)).2.1) 0).text.b⟩⟩),(iI (at_:Int))])] _),_⟩;let a9:Value:=(aG [(iI ((Token.mk (ap (s.drop at_)).1 (Str.mk (ap (s.drop at_)).2.1) 0).kind)),(.string ⟨⟨(Token.mk (ap (s.drop at_)).1 (Str.mk (ap (s.drop at_)).2.1) 0).text.b⟩⟩),(iI (at_:Int))])
  refine ad 2 rfl (ab (wUo 2 0 [(1,.o a9)] 38 39 [] [(38,(sL A l.length E)),(39,a9)] (qn 112 0 3 (HS.hc a4 (i:=2) rfl) rfl rfl rfl rfl) rfl fun _=>aw (aM (α:=Token) (ps:=[(0,a9)]) (cells:=[(iI ((Token.mk (ap (s.drop at_)).1 (Str.mk (ap (s.drop at_)).2.1) 0).kind)),(.string ⟨⟨(Token.mk (ap (s.drop at_)).1 (Str.mk (ap (s.drop at_)).2.1) 0).text.b⟩⟩),(iI (at_:Int))]) ([(⟨(Token.mk (ap (s.drop at_)).1 (Str.mk (ap (s.drop at_)).2.1) 0).kind,⟨(Token.mk (ap (s.drop at_)).1 (Str.mk (ap (s.drop at_)).2.1) 0).text.b⟩,(at_:Int)⟩:Token)]:List Token) a4 rfl rfl rfl (by kernel_rfl) ⟨[(iI ((Token.mk (ap (s.drop at_)).1 (Str.mk (ap (s.drop at_)).2.1) 0).kind)),(.string ⟨⟨(Token.mk (ap (s.drop at_)).1 (Str.mk (ap (s.drop at_)).2.1) 0).text.b⟩⟩),(iI (at_:Int))],[],rfl,⟨rfl,by omega,by(dsimp only;omega)⟩,rfl⟩ rfl) rfl rfl ?_));rintro _ c6 b7 ⟨c8,dk,rfl,bt,(a5:HS _ _ _ [_,_,_,b7] _),_⟩;refine aw (dX (α:=Token) (q:=1) T a5 rfl rfl rfl (OS.sv bt a5 (i:=3) rfl) rfl rfl rfl rfl rfl rfl rfl (by(simp only[a01,a03,a05];omega))) rfl rfl ?_;rintro _ b4 bn ⟨ba,bl,rfl,bw,(a6:HS _ _ _ [_,bn,_,_] _),_⟩;refine za (sL ba (l++([(⟨(Token.mk (ap (s.drop at_)).1 (Str.mk (ap (s.drop at_)).2.1) 0).kind,⟨(Token.mk (ap (s.drop at_)).1 (Str.mk (ap (s.drop at_)).2.1) 0).text.b⟩,(at_:Int)⟩:Token)]:List Token)).length bl) (ad 1 rfl (wR 2 [(2,.o (.string ⟨⟨(Token.mk (ap (s.drop at_)).1 (Str.mk (ap (s.drop at_)).2.1) 0).text.b⟩⟩))] 42 46 [5] [(5,(iI ((at_:Int)+(((Token.mk (ap (s.drop at_)).1 (Str.mk (ap (s.drop at_)).2.1) 0).text.b).length:Int))))] (vA (ql 9 1 (HS.hc a6 (i:=2) rfl) rfl rfl) (vA (vi (n:=(at_:Int)+(((Token.mk (ap (s.drop at_)).1 (Str.mk (ap (s.drop at_)).2.1) 0).text.b).length:Int))) trivial)) rfl fun _=>wR 1 [(4,.o (iI ((spl false (s.drop (at_+(((Token.mk (ap (s.drop at_)).1 (Str.mk (ap (s.drop at_)).2.1) 0).text.b).length))):Nat):Int)))] 18 23 [5] [(5,(iI (((at_:Int)+(((Token.mk (ap (s.drop at_)).1 (Str.mk (ap (s.drop at_)).2.1) 0).text.b).length:Int))+((spl false (s.drop (at_+(((Token.mk (ap (s.drop at_)).1 (Str.mk (ap (s.drop at_)).2.1) 0).text.b).length))):Nat):Int))))] (vA (vA (show(0:Int)<=(at_:Int)+(((Token.mk (ap (s.drop at_)).1 (Str.mk (ap (s.drop at_)).2.1) 0).text.b).length:Int) from by omega) (show(at_:Int)+(((Token.mk (ap (s.drop at_)).1 (Str.mk (ap (s.drop at_)).2.1) 0).text.b).length:Int)<=(((s:List UInt8).length:Nat):Int) from by(dsimp only;omega))) (vA (iU ex (s.drop (at_+(((Token.mk (ap (s.drop at_)).1 (Str.mk (ap (s.drop at_)).2.1) 0).text.b).length))) b4 (by(rw[a0V];omega))) (vA (vi (n:=((at_:Int)+(((Token.mk (ap (s.drop at_)).1 (Str.mk (ap (s.drop at_)).2.1) 0).text.b).length:Int))+((spl false (s.drop (at_+(((Token.mk (ap (s.drop at_)).1 (Str.mk (ap (s.drop at_)).2.1) 0).text.b).length))):Nat):Int)) (by(dsimp only;omega))) trivial))) rfl fun _=>?_));refine b6 _ _ _ ?_ ⟨(at_+(((Token.mk (ap (s.drop at_)).1 (Str.mk (ap (s.drop at_)).2.1) 0).text.b).length))+(spl false (s.drop (at_+(((Token.mk (ap (s.drop at_)).1 (Str.mk (ap (s.drop at_)).2.1) 0).text.b).length)))),l++([(⟨(Token.mk (ap (s.drop at_)).1 (Str.mk (ap (s.drop at_)).2.1) 0).kind,⟨(Token.mk (ap (s.drop at_)).1 (Str.mk (ap (s.drop at_)).2.1) 0).text.b⟩,(at_:Int)⟩:Token)]:List Token),fu-1,ba,bl,bn,_,(fT (a1) U),(HS.sub a6 (a0b _ _)),bw,⟨rfl,rfl,rfl,rfl,trivial⟩,rfl,(by dsimp only;omega),(by dsimp only;omega),(scan_step (by omega) hf (by omega) h2),(by rw[a01,a0u];dsimp only;omega)⟩;dsimp only;omega
 refine ab (wTo 3 0 [] 47 48 [2] [(2,(sL A l.length E)),(48,(aG [(iI 0),(iI 0)]))] rfl fun _=>ay (am (q:=0) a8 rfl rfl rfl rfl rfl rfl rfl rfl rfl) rfl ?_);rintro _ c7 _ ⟨(a7:HS _ _ _ [_,O] _),_⟩;refine ad 1 rfl (ae ⟨.inr rfl,_,(rT rfl (rC rfl (cM rfl rfl (HS.hc a7 (i:=0) rfl) rfl) rN)),A,E,l,O,(⟨0,0⟩:ErrT),_,(a1),(HS.only a7 (i:=1) rfl),rfl,T,(by(dsimp only;omega)),(by(dsimp only;omega)),(by rw[scan_end (by omega) h2]),(by rw[scan_end (by omega) h2])⟩)
def lV(n m:Int):Int:=bif decide (Int.tmod n m<0) then Int.tmod n m+m else Int.tmod n m
theorem pick_c(n:Int)(m:Int)(H:Heap)(U:0<m/\m<9223372036854775808):kKt ex 17 [(iI n),(iI m)] H fun v H'=> ∃(r:Int),H'=H/\v= .int .i64 r/\r=lV n m/\(0<=r/\r<m):=by
 have O: -m<n.tmod m:=Int.lt_tmod_of_pos n U.1;have T:n.tmod m<m:=Int.tmod_lt_of_pos n U.1;refine av Tryz.func17 rfl rfl (aj 1 rfl (wT 2 [] 4 4 [] [(4,(iI 0))] rfl fun _=>wU 3 [] 5 7 [0] [(0,(iI (Int.tmod n m)))] (show m≠0 from by omega) rfl fun _=>wT 1 [] 8 9 [] [(9,(.bool (decide (Int.tmod n m<0))))] rfl fun _=>zi 0 2 (fun A=>?_) fun A=>?_))
 ·have E:=A;try simp only[BS]at E
  refine wU 2 [] 10 12 [0] [(0,(iI ((Int.tmod n m)+m)))] (vi (n:=(Int.tmod n m)+m)) rfl fun _=>wT 1 [] 4 4 [13] [(4,(iI ((Int.tmod n m)+m)))] rfl fun _=>ae ⟨.inr rfl,_,rfl,(Int.tmod n m)+m,rfl,rfl,(by simp only[lV,A,cond_true,cond_false]),(by omega)⟩
 have E:=A;try simp only[BS]at E
 refine wT 1 [] 4 4 [13] [(4,(iI (Int.tmod n m)))] rfl fun _=>ae ⟨.inr rfl,_,rfl,Int.tmod n m,rfl,rfl,(by simp only[lV,A,cond_true,cond_false]),(by omega)⟩
theorem pick_c_q(n:Int)(m:Int)(H:Heap)(A:0<m/\m<9223372036854775808):kKt ex 17 [(iI n),(iI m)] H fun v H'=>v=(iI (lV n m))/\H'=H:=
 cq (pick_c ex n m H A) (by rintro _ _ ⟨_,rfl,rfl,rfl,_⟩;exact⟨rfl,rfl⟩)
end Go.Proofs.YtkpgbdkkgcdhmaaGreat.l1
