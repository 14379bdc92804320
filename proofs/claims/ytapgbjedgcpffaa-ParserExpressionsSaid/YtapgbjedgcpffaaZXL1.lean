/-
The lexer of the program. No condition but that a text is not longer than a machine eQ.
-/
import Derived.Test.YtapgbjedgcpffaaZXRD
import Derived.Test.YtapgbjedgcpffaaChecked
noncomputable section
namespace Go.Proofs.Ytapgbjedgcpffaa
abbrev kKt(e:FuncId):=Go.R.C Try.prog 0 (Go.R.KX e)
end Go.Proofs.Ytapgbjedgcpffaa
namespace Go.Proofs.Ytapgbjedgcpffaa.l1
open Go.R
set_option maxRecDepth 10000
set_option linter.unusedVariables false
set_option linter.unusedSimpArgs false
variable (ex:FuncId) {F:Fz} {H:Heap} {R:List Fp}
theorem ql{H:Heap}{b o:Nat}{cs:List Value}{w:Value}(t:TypeId)(i:Nat)(hc:HC H.get b o cs)(h:fC Try.prog t=some false)(z:cs[i]?=some w):LDv Try.prog H t (.pointer (some ⟨b,o+i,none⟩)) w:=ld1 hc h z
theorem qn{H:Heap}{b o:Nat}{cs l:List Value}(t:TypeId)(i n:Nat)(hc:HC H.get b o cs)(h:fC Try.prog t=some true)(hs:ei Try.prog t=some n)(A:Nat.ble (i+n) cs.length=true)(z:gg (gx cs i) n=l):LDv Try.prog H t (.pointer (some ⟨b,o+i,none⟩)) (.agg ⟨l⟩):=ldN hc h hs A z
structure Token where
 kind:Int
 text:Str
 at_:Int
 deriving Inhabited
instance :Rp Token where
 sz:=3
 rep F cs x:=cs=[.int .i64 x.kind,.string ⟨⟨x.text.b⟩⟩,.int .i64 x.at_]/\in64 x.kind/\in64 x.at_
 len:=by rintro F cs x ⟨rfl,_⟩;rfl
 one:=by rintro F cs x ⟨rfl,_⟩;rfl
 mono:=by intro F F' cs x _ h;exact h
theorem Token.vw{F:Fz}{get:Nat->Option AObj}{v:Value}{cf:Nat->List Value}{j:Nat}{l:List Token}(h:VW F get v l cf j)(E:j<l.length:=by first|(dsimp only;omega)|omega):HC get (sB v) (sO v+j *Rp.sz Token) [.int .i64 (l.getD j default).kind,.string ⟨⟨(l.getD j default).text.b⟩⟩,.int .i64 (l.getD j default).at_]:=by obtain⟨⟨A,_⟩,z⟩:=h.1 default E;rw[show cf j=_ from A]at z;exact z
theorem Token.fx{F:Fz}{get:Nat->Option AObj}{v:Value}{cf:Nat->List Value}{j:Nat}{l:List Token}(h:VW F get v l cf j):in64 (l.getD j default).kind/\in64 (l.getD j default).at_:=by
 rcases a0c j l.length with hj|hj
 ·obtain⟨⟨E,z,A⟩,_⟩:=h.1 default hj;exact⟨z,A⟩
 rw[bF hj];exact⟨by decide,by decide⟩
structure ErrT where
 why:Int
 at_:Int
 deriving Inhabited
instance :Rp ErrT where
 sz:=2
 rep F cs x:=cs=[.int .i64 x.why,.int .i64 x.at_]/\in64 x.why/\in64 x.at_
 len:=by rintro F cs x ⟨rfl,_⟩;rfl
 one:=by rintro F cs x ⟨rfl,_⟩;rfl
 mono:=by intro F F' cs x _ h;exact h
def cg(c:UInt8):Bool:=decide (97<=c.toNat)&&decide (c.toNat<=122)||decide (65<=c.toNat)&&decide (c.toNat<=90)||c.toNat==95
def br(c:UInt8):Bool:=decide (48<=c.toNat)&&decide (c.toNat<=57)
def aZ(c:UInt8):Bool:=cg c||br c
def aP(s:List UInt8):Nat:=(s.takeWhile aZ).length
theorem eS{p:UInt8->Bool}: ∀{s:List UInt8} {n:Nat},n<=s.length->(s.take n).all p=true->(n<s.length->p (s.getD n 0)=false)->n=(s.takeWhile p).length
 | [],n,h,_,_=>by simp at h;simp[h]
 |c::s,0,_,_,A=>by have:=A (by simp);simp only[List.getD_cons_zero]at this;rw[a1y,this];rfl
 |c::s,n+1,h,z,A=>by simp only[List.take_succ_cons,a0J,a03]at z;rw[a1y,z.1];have:=eS (p:=p) (s:=s) (n:=n) (by simpa using h) z.2 (fun E=>by have:=A (by simpa using E);simpa using this);simp[←this]
theorem fh(s:List UInt8):aP s<=s.length:=(List.takeWhile_prefix _).length_le
def blankB(c:UInt8):Bool:=c==32||c==9||c==10||c==13
def isDigAll(s:List UInt8):Bool:=s.all br
def gZ:List UInt8:=[57,50,50,51,51,55,50,48,51,54,56,53,52,55,55,53,56,48,56]
def ce(s:List UInt8):Bool:=s.all br&&((s.getD 0 0 !=48||s.length==1)&&(decide (s.length<19)||s.length==19&&(Op.bytesLess s gZ||s==gZ)))
theorem vn1{s:List UInt8}{i:Nat}(h:i<s.length)(c:br (s.getD i 0)=false):false=ce s:=by
 have:s.all br=false:=by rw[List.all_eq_false];refine⟨s.getD i 0,?_,by simpa using c⟩;rw[a08,a09 h];exact a0w h
 simp[ce,this]
theorem all_of_take{p:UInt8->Bool}{s:List UInt8}{i:Nat}(h:s.length<=i)(z:(s.take i).all p=true):s.all p=true:=by rwa [a0Z h]at z
theorem nat_beq48(c:UInt8):(((c.toNat:Int) !=48))=(c !=48):=by
 by_cases h:c=48
 ·subst h;rfl
 have:c.toNat≠48:=fun e=>h (UInt8.toNat_inj.mp (by rw[e];rfl))
 have z:((c.toNat:Int) !=48)=true:=by simp;omega
 rw[z,eq_comm];simpa using h
theorem int_beq(a:Nat)(b:Nat):((a:Int)==(b:Int))=(a==b):=by rw[a0x];simp;omega
theorem vn2{s:List UInt8}(h:s.all br=true):(((((s.getD 0 0).toNat:Int) !=48)||((s.length:Int)==1))&&((decide ((s.length:Int)<19))||(((s.length:Int)==19)&&(Op.bytesLess s gZ||s==gZ))))=ce s:=by rw[ce,h,nat_beq48,show((s.length:Int)==1)=(s.length==1) from int_beq _ 1,show((s.length:Int)==19)=(s.length==19) from int_beq _ 19,a1l];rw[show decide ((s.length:Int)<19)=decide (s.length<19) from decide_eq_decide.mpr (by omega)]
def dI:List UInt8:=[43,45,42,47,37,38,124,94,126,33,60,62,61,63,58,59,44,40,41,123,125,91,93]
def aL(s:List UInt8):Nat:=
 if s.take 3=[62,62,62] then 3
 else if s.take 2=[60,60]\/s.take 2=[62,62]\/s.take 2=[60,61]\/s.take 2=[62,61]\/s.take 2=[61,61]\/s.take 2=[33,61] then 2
 else if s.getD 0 0∈dI then 1 else 0
theorem tk3{s:List UInt8}{a b c:UInt8}(h:(3:Int)<=s.length->s.take 3≠ [a,b,c]): ¬s.take 3=[a,b,c]:=by intro e;refine h ?_ e;have:=congrArg List.length e;rw[a0q]at this;simp only[a07,List.length_nil]at this;omega
theorem tk2{s:List UInt8}{a b:UInt8}(h:(2:Int)<=s.length->s.take 2≠ [a,b]): ¬s.take 2=[a,b]:=by intro e;refine h ?_ e;have:=congrArg List.length e;rw[a0q]at this;simp only[a07,List.length_nil]at this;omega
theorem sing_mem{c:UInt8}{i:Nat}(h:i<23)(e:((c.toNat:Int))=((dI.getD i 0).toNat:Int)):c∈dI:=by have:c=dI.getD i 0:=UInt8.toNat_inj.mp (by exact_mod_cast e);rw[this,a08,a09 (show i<dI.length from h)];exact a0w _
theorem sing_ne{c:UInt8}{i j:Nat}(e:((c.toNat:Int))≠((dI.getD i 0).toNat:Int))(z: ∀j,j<i->c≠dI.getD j 0)(h:j<i+1):c≠dI.getD j 0:=by
 rcases Nat.lt_succ_iff_lt_or_eq.mp h with h|h
 ·exact z j h
 subst h;intro A;exact e (by rw[A])
theorem sing_no{c:UInt8}(z: ∀j,j<23->c≠dI.getD j 0):c∉dI:=by intro h;obtain⟨j,A,e⟩:=List.getElem_of_mem h;refine z j A ?_;rw[a08,a09 A];exact e.symm
theorem isLetter_c(c:UInt8)(H:Heap):kKt ex 77 [(.int .u8 (c.toNat:Int))] H fun v H'=> ∃(r:Bool),H'=H/\v= .bool r/\r=cg c:=by refine aD Try.func77 rfl rfl (am 1 rfl (wT 2 [] 2 2 [] [(2,(.bool false))] rfl fun _=>wT 1 [] 2 20 [] [(2,(.bool ((((decide ((97:Int)<=(c.toNat:Int)))&&(decide ((c.toNat:Int)<=122)))||((decide ((65:Int)<=(c.toNat:Int)))&&(decide ((c.toNat:Int)<=90))))||((c.toNat:Int)==95))))] rfl fun _=>ah ⟨.inr rfl,_,rfl,((((decide ((97:Int)<=(c.toNat:Int)))&&(decide ((c.toNat:Int)<=122)))||((decide ((65:Int)<=(c.toNat:Int)))&&(decide ((c.toNat:Int)<=90))))||((c.toNat:Int)==95)),rfl,rfl,(by simp[cg];grind)⟩))
theorem isLetter_c_q(c:UInt8)(H:Heap):kKt ex 77 [(.int .u8 (c.toNat:Int))] H fun v H'=>v=(.bool (cg c))/\H'=H:=
 cq (isLetter_c ex c H) (by rintro _ _ ⟨_,rfl,rfl,rfl⟩;exact⟨rfl,rfl⟩)
theorem isDigit_c(c:UInt8)(H:Heap):kKt ex 53 [(.int .u8 (c.toNat:Int))] H fun v H'=> ∃(r:Bool),H'=H/\v= .bool r/\r=br c:=by refine aD Try.func53 rfl rfl (am 1 rfl (wT 2 [] 2 2 [] [(2,(.bool false))] rfl fun _=>wT 1 [] 2 8 [] [(2,(.bool ((decide ((48:Int)<=(c.toNat:Int)))&&(decide ((c.toNat:Int)<=57)))))] rfl fun _=>ah ⟨.inr rfl,_,rfl,((decide ((48:Int)<=(c.toNat:Int)))&&(decide ((c.toNat:Int)<=57))),rfl,rfl,(by simp[br];grind)⟩))
theorem fW(c:UInt8)(H:Heap):kKt ex 53 [(.int .u8 (c.toNat:Int))] H fun v H'=>v=(.bool (br c))/\H'=H:=
 cq (isDigit_c ex c H) (by rintro _ _ ⟨_,rfl,rfl,rfl⟩;exact⟨rfl,rfl⟩)
theorem wordLen_c(s:List UInt8)(H:Heap)(hl:s.length<4611686018427387904):kKt ex 51 [(.string ⟨⟨s⟩⟩)] H fun v H'=> ∃(r:Nat),H'=H/\v= .int .i64 (r:Int)/\r=aP s:=by
 refine aD Try.func51 rfl rfl (am 1 rfl (wT 2 [] 2 2 [] [(2,(iI 0))] rfl fun _=>wT 3 [] 1 0 [3] [(3,(iI 0))] rfl fun _=>aA (fun(h:Nat) f H'=> ∃(n:Nat),H'=H/\aX f [(0,(.string ⟨⟨s⟩⟩)),(3,(iI (n:Int)))]/\h=s.length-n/\(n<=s.length)/\((s.take n).all aZ=true)) _ ⟨0,rfl,⟨rfl,rfl,trivial⟩,rfl,(by omega),(by rfl)⟩ ?_));rintro al f3 H ⟨n,rfl,E,rfl,V,T⟩ U;refine aN _ E (fun _=>?_);clear E;refine am 2 rfl ?_;have Y:=cV (s.getD n 0);have Z:=cV (s.getD n 0);refine wR 1 [(8,.o (.bool (cg (s.getD n 0)))),(13,.o (.bool (br (s.getD n 0))))] 4 19 [] [(19,(.bool ((decide ((n:Int)<(s.length:Int)))&&(cg (s.getD n 0)||br (s.getD n 0)))))] (vA (fun(z:(decide ((n:Int)<(s.length:Int)))=true)=>(vA (show(0:Int)<=(n:Int) from by(try simp only[BS]at z);omega) (show(n:Int)<(((s:List UInt8).length:Nat):Int) from by(try simp only[BS]at z);omega))) (vA (fun(z:(decide ((n:Int)<(s.length:Int)))=true)=>(isLetter_c_q ex (s.getD n 0) H)) (vA (fun(z:(cg (s.getD n 0))=false) (O:(decide ((n:Int)<(s.length:Int)))=true)=>(vA (show(0:Int)<=(n:Int) from by(try simp only[BS]at z O);omega) (show(n:Int)<(((s:List UInt8).length:Nat):Int) from by(try simp only[BS]at z O);omega))) (vA (fun(z:(cg (s.getD n 0))=false) (O:(decide ((n:Int)<(s.length:Int)))=true)=>(fW ex (s.getD n 0) H)) trivial)))) rfl fun _=>zi 2 5 (fun A=>?_) fun A=>?_
 ·try simp only[BS]at A
  have c:=A;refine wU 2 [] 20 21 [3] [(3,(iI ((n:Int)+1)))] (vi (n:=(n:Int)+1)) rfl fun _=>?_
  refine U _ _ _ ?_ ⟨n+1,rfl,⟨rfl,rfl,trivial⟩,rfl,(by omega),(by rw[eM (by omega),T,aZ];simpa using c.2)⟩;omega
 try simp only[BS]at A
 have c:=A;refine wT 1 [] 2 2 [22] [(2,(iI (n:Int)))] rfl fun _=>ah ⟨.inr rfl,_,rfl,n,rfl,rfl,(eS V T (fun hn=>by have:=c (by omega);rw[aZ,this.1,this.2];rfl))⟩
theorem wordLen_c_q(s:List UInt8)(H:Heap)(h:s.length<4611686018427387904):kKt ex 51 [(.string ⟨⟨s⟩⟩)] H fun v H'=>v=(iI ((aP s:Nat):Int))/\H'=H:=
 cq (wordLen_c ex s H h) (by rintro _ _ ⟨_,rfl,rfl,rfl⟩;exact⟨rfl,rfl⟩)
theorem validNum_c(s:List UInt8)(H:Heap)(hl:s.length<4611686018427387904)(h0:0<s.length):kKt ex 54 [(.string ⟨⟨s⟩⟩)] H fun v H'=> ∃(r:Bool),H'=H/\v= .bool r/\r=ce s:=by
 refine aD Try.func54 rfl rfl (am 1 rfl (wT 3 [] 2 2 [] [(2,(.bool false))] rfl fun _=>wT 2 [] 1 0 [3] [(3,(iI 0))] rfl fun _=>aA (fun(mm:Nat) f H'=> ∃(i:Nat),H'=H/\aX f [(0,(.string ⟨⟨s⟩⟩)),(3,(iI (i:Int)))]/\mm=s.length-i/\(i<=s.length)/\((s.take i).all br=true)) _ ⟨0,rfl,⟨rfl,rfl,trivial⟩,rfl,(by omega),(by rfl)⟩ ?_));rintro Y Z H ⟨i,rfl,A,rfl,h1,O⟩ T;refine aN _ A (fun _=>?_);clear A;refine am 2 rfl (wT 1 [] 4 7 [] [(7,(.bool (decide ((i:Int)<(s.length:Int)))))] rfl fun _=>zd 4 5 (fun E=>?_) fun E=>?_)
 ·have h:=E;have V:=cV (s.getD i 0);refine wR 1 [(3,.o (.bool (br (s.getD i 0))))] 10 14 [] [(14,(.bool (!(br (s.getD i 0)))))] (vA (vA (show(0:Int)<=(i:Int) from by omega) (show(i:Int)<(((s:List UInt8).length:Nat):Int) from by omega)) (vA (fW ex (s.getD i 0) H) trivial)) rfl fun _=>zi 1 2 (fun z=>?_) fun z=>?_
  ·try simp only[BS]at z
   have c:=z;refine wT 1 [] 2 2 [] [(2,(.bool false))] rfl fun _=>ah ⟨.inr rfl,_,rfl,false,rfl,rfl,(vn1 (by omega) c)⟩
  try simp only[BS]at z
  have c:=z;refine wU 1 [] 8 9 [3] [(3,(iI ((i:Int)+1)))] (vi (n:=(i:Int)+1)) rfl fun _=>?_
  refine T _ _ _ ?_ ⟨i+1,rfl,⟨rfl,rfl,trivial⟩,rfl,(by omega),(by rw[eM (by omega),O,c];rfl)⟩;omega
 have h:=E;have U:=cV (s.getD 0 0);refine wU 1 [] 15 36 [2] [(2,(.bool (((((s.getD 0 0).toNat:Int) !=48)||((s.length:Int)==1))&&((decide ((s.length:Int)<19))||(((s.length:Int)==19)&&(Op.bytesLess s [57,50,50,51,51,55,50,48,51,54,56,53,52,55,55,53,56,48,56]||s==([57,50,50,51,51,55,50,48,51,54,56,53,52,55,55,53,56,48,56]:List UInt8)))))))] (vA (show(0:Int)<=0 from by omega) (show(0:Int)<(((s:List UInt8).length:Nat):Int) from by omega)) rfl fun _=>ah ⟨.inr rfl,_,rfl,(((((s.getD 0 0).toNat:Int) !=48)||((s.length:Int)==1))&&((decide ((s.length:Int)<19))||(((s.length:Int)==19)&&(Op.bytesLess s [57,50,50,51,51,55,50,48,51,54,56,53,52,55,55,53,56,48,56]||s==([57,50,50,51,51,55,50,48,51,54,56,53,52,55,55,53,56,48,56]:List UInt8))))),rfl,rfl,(vn2 (all_of_take (by omega) O))⟩
theorem validNum_c_q(s:List UInt8)(H:Heap)(h:s.length<4611686018427387904)(z:0<s.length):kKt ex 54 [(.string ⟨⟨s⟩⟩)] H fun v H'=>v=(.bool (ce s))/\H'=H:=
 cq (validNum_c ex s H h z) (by rintro _ _ ⟨_,rfl,rfl,rfl⟩;exact⟨rfl,rfl⟩)
theorem symLen_c(s:List UInt8)(H:Heap)(h0:0<s.length):kKt ex 52 [(.string ⟨⟨s⟩⟩)] H fun v H'=> ∃(r:Nat),H'=H/\v= .int .i64 (r:Int)/\r=aL s:=by
 refine aD Try.func52 rfl rfl (am 1 rfl (wT 3 [] 2 2 [] [(2,(iI 0))] rfl fun _=>wT 2 [] 6 7 [] [(6,(aG [(.string ⟨⟨[62,62,62]⟩⟩),(.string ⟨⟨[60,60]⟩⟩),(.string ⟨⟨[62,62]⟩⟩),(.string ⟨⟨[60,61]⟩⟩),(.string ⟨⟨[62,61]⟩⟩),(.string ⟨⟨[61,61]⟩⟩),(.string ⟨⟨[33,61]⟩⟩)])),(7,(iI 0))] rfl fun _=>bj (am 1 rfl ?_)));refine wT 2 [] 8 8 [] [(8,(.bool true))] rfl fun _=>bu 4 (v:=true) rfl rfl rfl rfl (wT 2 [] 9 9 [4] [(4,(.string ⟨⟨[62,62,62]⟩⟩))] rfl fun _=>wU 1 [] 10 22 [] [(22,(.bool ((decide ((3:Int)<=(s.length:Int)))&&((s.take 3)==([62,62,62]:List UInt8)))))] (fun(z:(decide ((3:Int)<=(s.length:Int)))=true)=>(vA (show(0:Int)<=3 from by(try simp only[BS]at z);(first|omega|(show _<23;omega))) (show(3:Int)<=(((s:List UInt8).length:Nat):Int) from by(try simp only[BS]at z);(first|omega|(show _<23;omega))))) rfl fun _=>zi 1 2 (fun Z=>?_) fun Z=>?_)
 ·try simp only[BS]at Z
  have h:=(Z).2;refine wT 1 [] 23 24 [2] [(2,(iI 3))] rfl fun _=>ah ⟨.inr rfl,_,rfl,3,rfl,rfl,(by simp only[aL, *,↓reduceIte,true_or,or_true])⟩
 try simp only[BS]at Z
 first|have h:=tk3 Z|have h:=tk2 Z
 refine wU 1 [] 7 7 [25] [(7,(iI 1))] (vi (n:=(1:Int))) rfl fun _=>bj (am 1 rfl (wT 2 [] 8 8 [] [(8,(.bool true))] rfl fun _=>bu 4 (v:=true) rfl rfl rfl rfl (wT 2 [] 9 9 [4] [(4,(.string ⟨⟨[60,60]⟩⟩))] rfl fun _=>?_)))
 refine wU 1 [] 10 22 [] [(22,(.bool ((decide ((2:Int)<=(s.length:Int)))&&((s.take 2)==([60,60]:List UInt8)))))] (fun(z:(decide ((2:Int)<=(s.length:Int)))=true)=>(vA (show(0:Int)<=2 from by(try simp only[BS]at z);(first|omega|(show _<23;omega))) (show(2:Int)<=(((s:List UInt8).length:Nat):Int) from by(try simp only[BS]at z);(first|omega|(show _<23;omega))))) rfl fun _=>zi 1 2 (fun A=>?_) fun A=>?_
 ·try simp only[BS]at A
  have h:=(A).2;refine wT 1 [] 23 24 [2] [(2,(iI 2))] rfl fun _=>ah ⟨.inr rfl,_,rfl,2,rfl,rfl,(by simp only[aL, *,↓reduceIte,true_or,or_true])⟩
 try simp only[BS]at A
 first|have h:=tk3 A|have h:=tk2 A
 refine wU 1 [] 7 7 [25] [(7,(iI 2))] (vi (n:=(2:Int))) rfl fun _=>bj (am 1 rfl (wT 2 [] 8 8 [] [(8,(.bool true))] rfl fun _=>bu 4 (v:=true) rfl rfl rfl rfl (wT 2 [] 9 9 [4] [(4,(.string ⟨⟨[62,62]⟩⟩))] rfl fun _=>?_)))
 refine wU 1 [] 10 22 [] [(22,(.bool ((decide ((2:Int)<=(s.length:Int)))&&((s.take 2)==([62,62]:List UInt8)))))] (fun(z:(decide ((2:Int)<=(s.length:Int)))=true)=>(vA (show(0:Int)<=2 from by(try simp only[BS]at z);(first|omega|(show _<23;omega))) (show(2:Int)<=(((s:List UInt8).length:Nat):Int) from by(try simp only[BS]at z);(first|omega|(show _<23;omega))))) rfl fun _=>zi 1 2 (fun E=>?_) fun E=>?_
 ·try simp only[BS]at E
  have h:=(E).2;refine wT 1 [] 23 24 [2] [(2,(iI 2))] rfl fun _=>ah ⟨.inr rfl,_,rfl,2,rfl,rfl,(by simp only[aL, *,↓reduceIte,true_or,or_true])⟩
 try simp only[BS]at E
 first|have h:=tk3 E|have h:=tk2 E
 refine wU 1 [] 7 7 [25] [(7,(iI 3))] (vi (n:=(3:Int))) rfl fun _=>bj (am 1 rfl (wT 2 [] 8 8 [] [(8,(.bool true))] rfl fun _=>bu 4 (v:=true) rfl rfl rfl rfl (wT 2 [] 9 9 [4] [(4,(.string ⟨⟨[60,61]⟩⟩))] rfl fun _=>?_)))
 refine wU 1 [] 10 22 [] [(22,(.bool ((decide ((2:Int)<=(s.length:Int)))&&((s.take 2)==([60,61]:List UInt8)))))] (fun(z:(decide ((2:Int)<=(s.length:Int)))=true)=>(vA (show(0:Int)<=2 from by(try simp only[BS]at z);(first|omega|(show _<23;omega))) (show(2:Int)<=(((s:List UInt8).length:Nat):Int) from by(try simp only[BS]at z);(first|omega|(show _<23;omega))))) rfl fun _=>zi 1 2 (fun O=>?_) fun O=>?_
 ·try simp only[BS]at O
  have h:=(O).2;refine wT 1 [] 23 24 [2] [(2,(iI 2))] rfl fun _=>ah ⟨.inr rfl,_,rfl,2,rfl,rfl,(by simp only[aL, *,↓reduceIte,true_or,or_true])⟩
 try simp only[BS]at O
 first|have h:=tk3 O|have h:=tk2 O
 refine wU 1 [] 7 7 [25] [(7,(iI 4))] (vi (n:=(4:Int))) rfl fun _=>bj (am 1 rfl (wT 2 [] 8 8 [] [(8,(.bool true))] rfl fun _=>bu 4 (v:=true) rfl rfl rfl rfl (wT 2 [] 9 9 [4] [(4,(.string ⟨⟨[62,61]⟩⟩))] rfl fun _=>?_)))
 refine wU 1 [] 10 22 [] [(22,(.bool ((decide ((2:Int)<=(s.length:Int)))&&((s.take 2)==([62,61]:List UInt8)))))] (fun(z:(decide ((2:Int)<=(s.length:Int)))=true)=>(vA (show(0:Int)<=2 from by(try simp only[BS]at z);(first|omega|(show _<23;omega))) (show(2:Int)<=(((s:List UInt8).length:Nat):Int) from by(try simp only[BS]at z);(first|omega|(show _<23;omega))))) rfl fun _=>zi 1 2 (fun T=>?_) fun T=>?_
 ·try simp only[BS]at T
  have h:=(T).2;refine wT 1 [] 23 24 [2] [(2,(iI 2))] rfl fun _=>ah ⟨.inr rfl,_,rfl,2,rfl,rfl,(by simp only[aL, *,↓reduceIte,true_or,or_true])⟩
 try simp only[BS]at T
 first|have h:=tk3 T|have h:=tk2 T
 refine wU 1 [] 7 7 [25] [(7,(iI 5))] (vi (n:=(5:Int))) rfl fun _=>bj (am 1 rfl (wT 2 [] 8 8 [] [(8,(.bool true))] rfl fun _=>bu 4 (v:=true) rfl rfl rfl rfl (wT 2 [] 9 9 [4] [(4,(.string ⟨⟨[61,61]⟩⟩))] rfl fun _=>?_)))
 refine wU 1 [] 10 22 [] [(22,(.bool ((decide ((2:Int)<=(s.length:Int)))&&((s.take 2)==([61,61]:List UInt8)))))] (fun(z:(decide ((2:Int)<=(s.length:Int)))=true)=>(vA (show(0:Int)<=2 from by(try simp only[BS]at z);(first|omega|(show _<23;omega))) (show(2:Int)<=(((s:List UInt8).length:Nat):Int) from by(try simp only[BS]at z);(first|omega|(show _<23;omega))))) rfl fun _=>zi 1 2 (fun U=>?_) fun U=>?_
 ·try simp only[BS]at U
  have h:=(U).2;refine wT 1 [] 23 24 [2] [(2,(iI 2))] rfl fun _=>ah ⟨.inr rfl,_,rfl,2,rfl,rfl,(by simp only[aL, *,↓reduceIte,true_or,or_true])⟩
 try simp only[BS]at U
 first|have h:=tk3 U|have h:=tk2 U
 refine wU 1 [] 7 7 [25] [(7,(iI 6))] (vi (n:=(6:Int))) rfl fun _=>bj (am 1 rfl (wT 2 [] 8 8 [] [(8,(.bool true))] rfl fun _=>bu 4 (v:=true) rfl rfl rfl rfl (wT 2 [] 9 9 [4] [(4,(.string ⟨⟨[33,61]⟩⟩))] rfl fun _=>?_)))
 refine wU 1 [] 10 22 [] [(22,(.bool ((decide ((2:Int)<=(s.length:Int)))&&((s.take 2)==([33,61]:List UInt8)))))] (fun(z:(decide ((2:Int)<=(s.length:Int)))=true)=>(vA (show(0:Int)<=2 from by(try simp only[BS]at z);(first|omega|(show _<23;omega))) (show(2:Int)<=(((s:List UInt8).length:Nat):Int) from by(try simp only[BS]at z);(first|omega|(show _<23;omega))))) rfl fun _=>zi 1 2 (fun V=>?_) fun V=>?_
 ·try simp only[BS]at V
  have h:=(V).2;refine wT 1 [] 23 24 [2] [(2,(iI 2))] rfl fun _=>ah ⟨.inr rfl,_,rfl,2,rfl,rfl,(by simp only[aL, *,↓reduceIte,true_or,or_true])⟩
 try simp only[BS]at V
 first|have h:=tk3 V|have h:=tk2 V
 refine wU 1 [] 7 7 [25] [(7,(iI 7))] (vi (n:=(7:Int))) rfl fun _=>bj (am 1 rfl (wT 2 [] 8 8 [] [(8,(.bool false))] rfl fun _=>fD 6 (v:=false) rfl rfl rfl rfl (wT 2 [] 1 0 [5] [(5,(iI 0))] rfl fun _=>?_)))
 refine aA (fun(mm:Nat) f H'=> ∃(i:Nat),H'=H/\aX f [(0,(.string ⟨⟨s⟩⟩)),(5,(iI (i:Int)))]/\mm=23-i/\(i<=23)/\(∀j,j<i->s.getD 0 0≠dI.getD j 0)) _ ⟨0,rfl,⟨rfl,rfl,trivial⟩,rfl,(by omega),(by intro j hj;omega)⟩ ?_;rintro a3 a4 H ⟨i,rfl,al,rfl,h1,h2⟩ an;refine aN _ al (fun _=>?_);clear al;refine am 2 rfl (wT 1 [] 26 27 [] [(27,(.bool (decide ((i:Int)<23))))] rfl fun _=>zd 4 5 (fun ax=>?_) fun ax=>?_)
 ·have a1:=cV (s.getD 0 0);have a2:=cV (([43,45,42,47,37,38,124,94,126,33,60,62,61,63,58,59,44,40,41,123,125,91,93]:List UInt8).getD i 0);refine wRD 1 [] 30 34 [] [(34,(.bool (((s.getD 0 0).toNat:Int)==((([43,45,42,47,37,38,124,94,126,33,60,62,61,63,58,59,44,40,41,123,125,91,93]:List UInt8).getD i 0).toNat:Int))))] (vA (vA (show(0:Int)<=0 from by omega) (show(0:Int)<(((s:List UInt8).length:Nat):Int) from by omega)) (vA (vA (show(0:Int)<=(i:Int) from by omega) (show(i:Int)<((([43,45,42,47,37,38,124,94,126,33,60,62,61,63,58,59,44,40,41,123,125,91,93]:List UInt8).length:Nat):Int) from by omega)) trivial)) rfl rfl fun _=>zi 1 2 (fun Y=>?_) fun Y=>?_
  ·try simp only[BS]at Y
   have ci:=Y;refine wT 1 [] 2 2 [] [(2,(iI 1))] rfl fun _=>ah ⟨.inr rfl,_,rfl,1,rfl,rfl,(by have ms:=sing_mem (by omega) ci;simp only[aL, *,↓reduceIte,or_self])⟩
  try simp only[BS]at Y
  have ci:=Y;refine wU 1 [] 28 29 [5] [(5,(iI ((i:Int)+1)))] (vi (n:=(i:Int)+1)) rfl fun _=>?_
  refine an _ _ _ ?_ ⟨i+1,rfl,⟨rfl,rfl,trivial⟩,rfl,(by omega),(fun j hj=>sing_ne ci h2 hj)⟩;omega
 refine wT 1 [] 2 2 [] [(2,(iI 0))] rfl fun _=>ah ⟨.inr rfl,_,rfl,0,rfl,rfl,(by have ms:=sing_no (fun j hj=>h2 j (by omega));simp only[aL, *,↓reduceIte,or_self])⟩
theorem symLen_c_q(s:List UInt8)(H:Heap)(z:0<s.length):kKt ex 52 [(.string ⟨⟨s⟩⟩)] H fun v H'=>v=(iI ((aL s:Nat):Int))/\H'=H:=
 cq (symLen_c ex s H z) (by rintro _ _ ⟨_,rfl,rfl,rfl⟩;exact⟨rfl,rfl⟩)
def spl:Bool->List UInt8->Nat
 |_,[]=>0
 |false,c::s=>if c=32\/c=9\/c=10\/c=13 then 1+spl false s else if c=35 then 1+spl true s else 0
 |true,c::s=>if c=10 then 1+spl false s else 1+spl true s
theorem gT: ∀(s:List UInt8) (b:Bool),spl b s<=s.length
 | [],b=>by simp[spl]
 |c::s,false=>by
  have z:=gT s false;have A:=gT s true
  rw[spl,a07];split
  ·omega
  split<;>omega
 |c::s,true=>by
  have z:=gT s false;have A:=gT s true
  rw[spl,a07];split<;>omega
theorem gw{s:List UInt8}{n:Nat}(h:n<s.length):s.drop n=s.getD n 0::s.drop (n+1):=by rw[a0T h,a08,a09 h];rfl
theorem u8i{c:UInt8}{k:Nat}(z:k<256)(h:(c.toNat:Int)=(k:Int)):c=UInt8.ofNat k:=by apply UInt8.toNat_inj.mp;rw[UInt8.toNat_ofNat'];omega
theorem u8e{c:UInt8}(k:Nat)(h:c=UInt8.ofNat k)(z:k<256:=by omega):(c.toNat:Int)=(k:Int):=by rw[h,UInt8.toNat_ofNat'];omega
theorem spE{b:Bool}{s:List UInt8}{n:Nat}(h: ¬n<s.length)(z:n<=s.length)(e:n+spl b (s.drop n)=spl false s):n=spl false s:=by rw[a10 (by omega)]at e;simpa[spl] using e
theorem spA{s:List UInt8}{n:Nat}(h:n<s.length)(c:s.getD n 0=32\/s.getD n 0=9\/s.getD n 0=10\/s.getD n 0=13)(e:n+spl false (s.drop n)=spl false s):n+1+spl false (s.drop (n+1))=spl false s:=by rw[gw h,spl,if_pos c]at e;omega
theorem spH{s:List UInt8}{n:Nat}(h:n<s.length)(c:s.getD n 0=35)(e:n+spl false (s.drop n)=spl false s):n+spl true (s.drop n)=spl false s:=by rw[gw h,spl,if_neg (by rw[c];decide),if_pos c]at e;rw[gw h,spl,if_neg (by rw[c];decide)];exact e
theorem spT{s:List UInt8}{n:Nat}(h:n<s.length)(c:s.getD n 0≠10)(e:n+spl true (s.drop n)=spl false s):n+1+spl true (s.drop (n+1))=spl false s:=by rw[gw h,spl,if_neg c]at e;omega
theorem spN{s:List UInt8}{n:Nat}(z:n<=s.length)(c:n<s.length->s.getD n 0=10)(e:n+spl true (s.drop n)=spl false s):n+spl false (s.drop n)=spl false s:=by
 by_cases h:n<s.length
 ·rw[gw h,spl,if_pos (c h)]at e;rw[gw h,spl,if_pos (.inr (.inr (.inl (c h))))];exact e
 rw[a10 (by omega)]at e⊢;exact e
theorem spX{s:List UInt8}{n:Nat}(h:n<s.length)(c: ¬(s.getD n 0=32\/s.getD n 0=9\/s.getD n 0=10\/s.getD n 0=13))(c2:s.getD n 0≠35)(e:n+spl false (s.drop n)=spl false s):n=spl false s:=by rw[gw h,spl,if_neg c,if_neg c2]at e;exact e
theorem spaceLen_c(s:List UInt8)(H:Heap)(hl:s.length<4611686018427387904):kKt ex 22 [(.string ⟨⟨s⟩⟩)] H fun v H'=> ∃(r:Nat),H'=H/\v= .int .i64 (r:Int)/\r=spl false s:=by
 refine aD Try.func22 rfl rfl (am 1 rfl (wT 2 [] 2 2 [] [(2,(iI 0))] rfl fun _=>wT 3 [] 1 0 [3] [(3,(iI 0))] rfl fun _=>aA (fun(mm:Nat) f H'=> ∃(n:Nat),H'=H/\aX f [(0,(.string ⟨⟨s⟩⟩)),(3,(iI (n:Int)))]/\mm=s.length-n/\(n<=s.length)/\(n+spl false (s.drop n)=spl false s)) _ ⟨0,rfl,⟨rfl,rfl,trivial⟩,rfl,(by omega),(by simp)⟩ ?_));rintro b0 f3 H ⟨n,rfl,a0,rfl,h1,O⟩ E;refine aN _ a0 (fun _=>?_);clear a0;refine am 2 rfl (wT 1 [] 4 7 [] [(7,(.bool (decide ((n:Int)<(s.length:Int)))))] rfl fun _=>zd 3 5 (fun c5=>?_) fun c5=>?_)
 ·have bb:=cV (s.getD n 0);refine wU 4 [] 8 10 [] [(10,(.int .u8 ((s.getD n 0).toNat:Int)))] (vA (show(0:Int)<=(n:Int) from by omega) (show(n:Int)<(((s:List UInt8).length:Nat):Int) from by omega)) rfl fun _=>wT 1 [] 12 13 [] [(12,(.bool (((s.getD n 0).toNat:Int)==32)))] rfl fun _=>zi 1 1 (fun T=>?_) fun T=>?_
  ·have c9:=T;try simp only[BS]at c9
   refine bu 0 (v:=(((s.getD n 0).toNat:Int)==32)) rfl T rfl rfl (wU 3 [] 17 18 [3] [(3,(iI ((n:Int)+1)))] (vi (n:=(n:Int)+1)) rfl fun _=>?_);refine E _ _ _ ?_ ⟨n+1,rfl,⟨rfl,rfl,trivial⟩,rfl,(by omega),(spA (by omega) (.inl (u8i (k:=32) (by omega) (by omega))) O)⟩;omega
  have c9:=T;try simp only[BS]at c9
  refine wT 1 [] 12 14 [] [(12,(.bool (((s.getD n 0).toNat:Int)==9)))] rfl fun _=>zi 1 1 (fun z=>?_) fun z=>?_
  ·have U:=z;try simp only[BS]at U
   refine bu 0 (v:=(((s.getD n 0).toNat:Int)==9)) rfl z rfl rfl (wU 3 [] 17 18 [3] [(3,(iI ((n:Int)+1)))] (vi (n:=(n:Int)+1)) rfl fun _=>?_);refine E _ _ _ ?_ ⟨n+1,rfl,⟨rfl,rfl,trivial⟩,rfl,(by omega),(spA (by omega) (.inr (.inl (u8i (k:=9) (by omega) (by omega)))) O)⟩;omega
  have U:=z;try simp only[BS]at U
  refine wT 1 [] 12 15 [] [(12,(.bool (((s.getD n 0).toNat:Int)==10)))] rfl fun _=>zi 1 0 (fun A=>?_) fun A=>?_
  ·have V:=A;try simp only[BS]at V
   refine bu 0 (v:=(((s.getD n 0).toNat:Int)==10)) rfl A rfl rfl (wU 3 [] 17 18 [3] [(3,(iI ((n:Int)+1)))] (vi (n:=(n:Int)+1)) rfl fun _=>?_);refine E _ _ _ ?_ ⟨n+1,rfl,⟨rfl,rfl,trivial⟩,rfl,(by omega),(spA (by omega) (.inr (.inr (.inl (u8i (k:=10) (by omega) (by omega))))) O)⟩;omega
  have V:=A;try simp only[BS]at V
  refine wT 1 [] 12 16 [] [(12,(.bool (((s.getD n 0).toNat:Int)==13)))] rfl fun _=>zi 0 1 (fun Y=>?_) fun Y=>?_
  ·try simp only[BS]at Y
   refine wU 3 [] 17 18 [3] [(3,(iI ((n:Int)+1)))] (vi (n:=(n:Int)+1)) rfl fun _=>?_
   refine E _ _ _ ?_ ⟨n+1,rfl,⟨rfl,rfl,trivial⟩,rfl,(by omega),(spA (by omega) (.inr (.inr (.inr (u8i (k:=13) (by omega) (by omega))))) O)⟩;omega
  try simp only[BS]at Y
  refine wT 1 [] 19 20 [] [(19,(.bool (((s.getD n 0).toNat:Int)==35)))] rfl fun _=>zi 1 1 (fun Z=>?_) fun Z=>?_
  ·try simp only[BS]at Z
   refine aA (fun(mm:Nat) f H'=> ∃(m:Nat),H'=H/\aX f [(0,(.string ⟨⟨s⟩⟩)),(3,(iI (m:Int)))]/\mm=s.length-m/\(m<=s.length)/\(m+spl true (s.drop m)=spl false s)/\(n<=m)) _ ⟨n,rfl,⟨rfl,rfl,trivial⟩,rfl,(by omega),(spH (by omega) (u8i (k:=35) (by omega) (by omega)) O),(by omega)⟩ ?_;rintro ba bl H ⟨m,rfl,an,rfl,g1,g2,g3⟩ a2;refine aN _ an (fun _=>?_);clear an;refine am 2 rfl ?_;have a4:=cV (s.getD m 0);refine wU 1 [] 21 30 [] [(30,(.bool ((decide ((m:Int)<(s.length:Int)))&&(((s.getD m 0).toNat:Int) !=10))))] (fun(g1:(decide ((m:Int)<(s.length:Int)))=true)=>(vA (show(0:Int)<=(m:Int) from by(try simp only[BS]at g1);omega) (show(m:Int)<(((s:List UInt8).length:Nat):Int) from by(try simp only[BS]at g1);omega))) rfl fun _=>zi 2 6 (fun al=>?_) fun al=>?_
   ·try simp only[BS]at al
    refine wU 2 [] 31 32 [3] [(3,(iI ((m:Int)+1)))] (vi (n:=(m:Int)+1)) rfl fun _=>?_
    refine a2 _ _ _ ?_ ⟨m+1,rfl,⟨rfl,rfl,trivial⟩,rfl,(by omega),(spT (by omega) (fun h=>by have:=u8e 10 h;omega) g2),(by omega)⟩;omega
   try simp only[BS]at al
   have gm:n<m:=by
    rcases a0c n m with h|h
    ·exact h
    exfalso;have e:m=n:=by omega
    subst e;omega
   refine E _ _ _ ?_ ⟨m,rfl,⟨rfl,rfl,trivial⟩,rfl,(by omega),(spN g1 (fun h=>(u8i (k:=10) (by omega) (by omega))) g2)⟩;omega
  try simp only[BS]at Z
  refine wT 1 [] 2 2 [11] [(2,(iI (n:Int)))] rfl fun _=>ah ⟨.inr rfl,_,rfl,n,rfl,rfl,(by exact spX (by omega) (by rintro(h|h|h|h)<;>(first|(have:=u8e 32 h;omega)|(have:=u8e 9 h;omega)|(have:=u8e 10 h;omega)|(have:=u8e 13 h;omega))) (fun h=>by have:=u8e 35 h;omega) O)⟩
 refine wT 1 [] 2 2 [33] [(2,(iI (n:Int)))] rfl fun _=>ah ⟨.inr rfl,_,rfl,n,rfl,rfl,(spE (by omega) h1 O)⟩
theorem gU(s:List UInt8)(H:Heap)(h:s.length<4611686018427387904):kKt ex 22 [(.string ⟨⟨s⟩⟩)] H fun v H'=>v=(iI ((spl false s:Nat):Int))/\H'=H:=
 cq (spaceLen_c ex s H h) (by rintro _ _ ⟨_,rfl,rfl,rfl⟩;exact⟨rfl,rfl⟩)
def ar(s:List UInt8):Int×List UInt8×Int:=
 if aP s=0 then(if aL s=0 then(0,[],2) else(3,s.take (aL s),0))
 else if br (s.getD 0 0)=true then(if ce (s.take (aP s))=true then(2,s.take (aP s),0) else(0,[],2))
 else if 16<aP s then(0,[],6) else(1,s.take (aP s),0)
theorem iH{s:List UInt8}(A:0<s.length):aL s<=s.length:=by
 have z: ∀{w:List UInt8} {n:Nat},s.take n=w->w.length=n->n<=s.length:=by intro w n e E;have:=congrArg List.length e;rw[a0q]at this;omega
 rw[aL];split
 ·exact z ‹_› rfl
 split
 ·rename_i h;rcases h with h|h|h|h|h|h<;>exact z h rfl
 split<;>omega
theorem first_c(s:List UInt8)(hs:HS (.of H []) F H [] R)(h0:0<s.length)(hl:s.length<4611686018427387904):kKt ex 23 [(.string ⟨⟨s⟩⟩)] H fun v H'=> ∃(t:Token) (e:Int) (F':Fz),Fz.le F F'/\HS (.of H []) F' H' [] R/\v= .tuple ⟨[.agg ⟨[.int .i64 t.kind,.string ⟨⟨t.text.b⟩⟩,.int .i64 t.at_]⟩,.int .i64 e]⟩/\in64 t.kind/\in64 t.at_/\t=Token.mk (ar s).1 (Str.mk (ar s).2.1) 0/\e=(ar s).2.2:=by
 have hw:=fh s;have hy:=iH h0;refine aD Try.func23 rfl rfl (am 1 rfl (aa (aI (aJ hs rfl) rfl rfl ?_)));rintro _ H2 _ ⟨b1,rfl,(z:HS _ _ _ [(fP b1 [(iI 0),(.string ⟨⟨[]⟩⟩),(iI 0)])] _),_⟩;refine za (iI 0) (ab 2 rfl (wU 4 [(1,.o (iI ((aP s:Nat):Int)))] 5 6 [4] [(4,(iI ((aP s:Nat):Int)))] (wordLen_c_q ex s H2 (by omega)) rfl fun _=>wT 1 [] 7 9 [] [(7,(.bool (((aP s:Nat):Int)==0)))] rfl fun _=>zi 2 1 (fun h=>?_) fun h=>?_))
 ·try simp only[BS]at h
  have z0:aP s=0:=by omega
  refine wU 2 [(1,.o (iI ((aL s:Nat):Int)))] 10 11 [4] [(4,(iI ((aL s:Nat):Int)))] (symLen_c_q ex s H2 (by omega)) rfl fun _=>wT 1 [] 12 13 [] [(13,(.bool (((aL s:Nat):Int)==0)))] rfl fun _=>zi 1 2 (fun c8=>?_) fun c8=>?_
  ·try simp only[BS]at c8
   have z1:aL s=0:=by omega
   refine aa (wTo 1 0 [] 14 14 [] [(14,(aG [(iI 0),(.string ⟨⟨[]⟩⟩),(iI 0)]))] rfl fun _=>aq (ae (q:=0) z rfl rfl rfl rfl rfl rfl rfl rfl rfl) rfl ?_);rintro _ bl _ ⟨(O:HS _ _ _ [_] _),_⟩;refine za (iI 2) (ab 1 rfl (ah ⟨.inr rfl,_,(rC rfl (bI rfl rfl (HS.hc O (i:=0) rfl) rfl) (rT rfl rN)),(⟨0,⟨[]⟩,0⟩:Token),2,_,fR,(HS.forget O),rfl,(by(dsimp only;omega)),(by(dsimp only;omega)),(by simp only[ar, *,↓reduceIte,a0d,not_false_eq_true]),(by simp only[ar, *,↓reduceIte,a0d,not_false_eq_true])⟩))
  try simp only[BS]at c8
  have z1: ¬aL s=0:=by omega
  refine aa (wUo 4 0 [] 15 18 [] [(18,(aG [(iI 3),(.string ⟨⟨s.take (aL s)⟩⟩),(iI 0)]))] (vA (show(0:Int)<=((aL s:Nat):Int) from by omega) (show((aL s:Nat):Int)<=(((s:List UInt8).length:Nat):Int) from by omega)) rfl fun _=>aq (ae (q:=0) z rfl rfl rfl rfl rfl rfl rfl rfl rfl) rfl ?_);rintro _ b0 _ ⟨(T:HS _ _ _ [(fP b1 [(iI 3),(.string ⟨⟨s.take (aL s)⟩⟩),(iI 0)])] _),_⟩;refine za (iI 0) (ab 1 rfl (ah ⟨.inr rfl,_,(rC rfl (bI rfl rfl (HS.hc T (i:=0) rfl) rfl) (rT rfl rN)),(⟨3,⟨s.take (aL s)⟩,0⟩:Token),0,_,fR,(HS.forget T),rfl,(by(dsimp only;omega)),(by(dsimp only;omega)),(by simp only[ar, *,↓reduceIte,a0d,not_false_eq_true]),(by simp only[ar, *,↓reduceIte,a0d,not_false_eq_true])⟩))
 try simp only[BS]at h
 have z0: ¬aP s=0:=by omega
 have a2:=cV (s.getD 0 0);refine wR 1 [(2,.o (.bool (br (s.getD 0 0))))] 19 22 [] [(19,(.bool (br (s.getD 0 0))))] (vA (vA (show(0:Int)<=0 from by omega) (show(0:Int)<(((s:List UInt8).length:Nat):Int) from by omega)) (vA (fW ex (s.getD 0 0) H2) trivial)) rfl fun _=>zi 2 1 (fun A=>?_) fun A=>?_
 ·try simp only[BS]at A
  have z2:br (s.getD 0 0)=true:=A;refine wR 1 [(3,.o (.bool (ce (s.take (aP s)))))] 23 27 [] [(27,(.bool (!(ce (s.take (aP s))))))] (vA (vA (show(0:Int)<=((aP s:Nat):Int) from by omega) (show((aP s:Nat):Int)<=(((s:List UInt8).length:Nat):Int) from by omega)) (vA (validNum_c_q ex (s.take (aP s)) H2 (by(rw[a0q];omega)) (by(rw[a0q];omega))) trivial)) rfl fun _=>zi 1 2 (fun E=>?_) fun E=>?_
  ·try simp only[BS]at E
   have z3:ce (s.take (aP s))=false:=by simpa using E
   refine aa (wTo 1 0 [] 28 28 [] [(28,(aG [(iI 0),(.string ⟨⟨[]⟩⟩),(iI 0)]))] rfl fun _=>aq (ae (q:=0) z rfl rfl rfl rfl rfl rfl rfl rfl rfl) rfl ?_);rintro _ b2 _ ⟨(U:HS _ _ _ [_] _),_⟩;refine za (iI 2) (ab 1 rfl (ah ⟨.inr rfl,_,(rC rfl (bI rfl rfl (HS.hc U (i:=0) rfl) rfl) (rT rfl rN)),(⟨0,⟨[]⟩,0⟩:Token),2,_,fR,(HS.forget U),rfl,(by(dsimp only;omega)),(by(dsimp only;omega)),(by simp only[ar, *,↓reduceIte,a0d,not_false_eq_true]),(by simp only[ar, *,↓reduceIte,a0d,not_false_eq_true])⟩))
  try simp only[BS]at E
  have z3:ce (s.take (aP s))=true:=by simpa using E
  refine aa (wUo 4 0 [] 29 32 [] [(32,(aG [(iI 2),(.string ⟨⟨s.take (aP s)⟩⟩),(iI 0)]))] (vA (show(0:Int)<=((aP s:Nat):Int) from by omega) (show((aP s:Nat):Int)<=(((s:List UInt8).length:Nat):Int) from by omega)) rfl fun _=>aq (ae (q:=0) z rfl rfl rfl rfl rfl rfl rfl rfl rfl) rfl ?_);rintro _ b3 _ ⟨(V:HS _ _ _ [(fP b1 [(iI 2),(.string ⟨⟨s.take (aP s)⟩⟩),(iI 0)])] _),_⟩;refine za (iI 0) (ab 1 rfl (ah ⟨.inr rfl,_,(rC rfl (bI rfl rfl (HS.hc V (i:=0) rfl) rfl) (rT rfl rN)),(⟨2,⟨s.take (aP s)⟩,0⟩:Token),0,_,fR,(HS.forget V),rfl,(by(dsimp only;omega)),(by(dsimp only;omega)),(by simp only[ar, *,↓reduceIte,a0d,not_false_eq_true]),(by simp only[ar, *,↓reduceIte,a0d,not_false_eq_true])⟩))
 try simp only[BS]at A
 have z2:br (s.getD 0 0)=false:=A;refine wT 1 [] 33 35 [] [(33,(.bool (decide ((16:Int)<((aP s:Nat):Int)))))] rfl fun _=>zd 1 3 (fun a1=>?_) fun a1=>?_
 ·have z4:16<aP s:=by omega
  refine aa (wTo 1 0 [] 36 36 [] [(36,(aG [(iI 0),(.string ⟨⟨[]⟩⟩),(iI 0)]))] rfl fun _=>aq (ae (q:=0) z rfl rfl rfl rfl rfl rfl rfl rfl rfl) rfl ?_);rintro _ b4 _ ⟨(Y:HS _ _ _ [_] _),_⟩;refine za (iI 6) (ab 1 rfl (ah ⟨.inr rfl,_,(rC rfl (bI rfl rfl (HS.hc Y (i:=0) rfl) rfl) (rT rfl rN)),(⟨0,⟨[]⟩,0⟩:Token),6,_,fR,(HS.forget Y),rfl,(by(dsimp only;omega)),(by(dsimp only;omega)),(by simp only[ar, *,↓reduceIte,a0d,not_false_eq_true]),(by simp only[ar, *,↓reduceIte,a0d,not_false_eq_true])⟩))
 have z4: ¬16<aP s:=by omega
 refine aa (wUo 4 0 [] 37 40 [] [(40,(aG [(iI 1),(.string ⟨⟨s.take (aP s)⟩⟩),(iI 0)]))] (vA (show(0:Int)<=((aP s:Nat):Int) from by omega) (show((aP s:Nat):Int)<=(((s:List UInt8).length:Nat):Int) from by omega)) rfl fun _=>aq (ae (q:=0) z rfl rfl rfl rfl rfl rfl rfl rfl rfl) rfl ?_);rintro _ b5 _ ⟨(Z:HS _ _ _ [(fP b1 [(iI 1),(.string ⟨⟨s.take (aP s)⟩⟩),(iI 0)])] _),_⟩;refine za (iI 0) (ab 1 rfl (ah ⟨.inr rfl,_,(rC rfl (bI rfl rfl (HS.hc Z (i:=0) rfl) rfl) (rT rfl rN)),(⟨1,⟨s.take (aP s)⟩,0⟩:Token),0,_,fR,(HS.forget Z),rfl,(by(dsimp only;omega)),(by(dsimp only;omega)),(by simp only[ar, *,↓reduceIte,a0d,not_false_eq_true]),(by simp only[ar, *,↓reduceIte,a0d,not_false_eq_true])⟩))
theorem take_len{s:List UInt8}{n:Nat}(h:n<=s.length):(s.take n).length=n:=by rw[a0q];omega
theorem jJ{s:List UInt8}(z:0<s.length):(ar s).2.1.length<=s.length/\((ar s).2.2=0->0<(ar s).2.1.length)/\0<=(ar s).2.2/\(ar s).2.2<10:=by
 have h:=fh s;have E:=iH z;have l1:=take_len h;have A:=take_len E;rw[ar];split
 ·split
  ·simp
  dsimp only;omega
 split
 ·split
  ·dsimp only;omega
  simp
 split
 ·simp
 dsimp only;omega
abbrev Sc:=List Token×Int×Int
def consT(t:Token)(r:Sc):Sc:=if r.2.1=0 then(t::r.1,r.2) else r
def preT(l:List Token)(r:Sc):Sc:=if r.2.1=0 then(l++r.1,r.2) else r
def cY:Nat->List UInt8->Nat->Sc
 |0,_,_=>([],0,0)
 |f+1,s,at_=>
  if at_<s.length then
   if(ar (s.drop at_)).2.2=0 then
    consT ⟨(ar (s.drop at_)).1,⟨(ar (s.drop at_)).2.1⟩,at_⟩ (cY f s (at_+(ar (s.drop at_)).2.1.length+spl false (s.drop (at_+(ar (s.drop at_)).2.1.length))))
   else([],(ar (s.drop at_)).2.2,at_)
  else([],0,0)
def av(s:List UInt8):Sc:=if 20000<s.length then([],6,20000) else cY (s.length+1) s (spl false s)
theorem pre_cons(l:List Token)(t:Token)(r:Sc):preT l (consT t r)=preT (l++[t]) r:=by
 unfold preT consT;by_cases h:r.2.1=0
 ·simp[h]
 simp[h]
theorem pre_nil(r:Sc):preT [] r=r:=by unfold preT;split<;>rfl
theorem scan_step{s:List UInt8}{at_ f:Nat}{l:List Token}{R:Sc}(h:at_<s.length)(A:s.length-at_<f)(e:(ar (s.drop at_)).2.2=0)(z:preT l (cY f s at_)=R):
  preT (l++[⟨(ar (s.drop at_)).1,⟨(ar (s.drop at_)).2.1⟩,at_⟩]) (cY (f-1) s (at_+(ar (s.drop at_)).2.1.length+spl false (s.drop (at_+(ar (s.drop at_)).2.1.length))))=R:=by
 obtain⟨g,rfl⟩: ∃g,f=g+1:=⟨f-1,by omega⟩
 rw[cY,if_pos h,if_pos e,pre_cons]at z
 exact z
theorem j5{s:List UInt8}{at_ f:Nat}{l:List Token}{R:Sc}(h:at_<s.length)(A:s.length-at_<f)(e:(ar (s.drop at_)).2.2≠0)(z:preT l (cY f s at_)=R):R=([],(ar (s.drop at_)).2.2,(at_:Int)):=by
 obtain⟨g,rfl⟩: ∃g,f=g+1:=⟨f-1,by omega⟩
 rw[cY,if_pos h,if_neg e,preT,if_neg (e)]at z;exact z.symm
theorem im{s:List UInt8}{at_ f:Nat}{l:List Token}{R:Sc}(h: ¬at_<s.length)(z:preT l (cY f s at_)=R):R=(l,0,0):=by
 have:cY f s at_=([],0,0):=by
  cases f with
  |zero=>rfl
  |succ f=>rw[cY,if_neg h]
 rw[this,preT,if_pos rfl,a0N]at z;exact z.symm
theorem scan_c(s:List UInt8)(hs:HS (.of H []) F H [] R)(hl:s.length<4611686018427387904):kKt ex 11 [(.string ⟨⟨s⟩⟩)] H fun v H'=> ∃(al:Option Addr) (kl:Nat) (l:List Token) (p:Fp) (e:ErrT) (F':Fz),Fz.le F F'/\HS (.of H []) F' H' [p] R/\v= .tuple ⟨[sL al l.length kl,.agg ⟨[.int .i64 e.why,.int .i64 e.at_]⟩]⟩/\OS F' (sL al l.length kl) l p/\in64 e.why/\in64 e.at_/\l=(av s).1/\e=ErrT.mk (av s).2.1 (av s).2.2:=by
 refine aD Try.func11 rfl rfl (am 1 rfl (aa (za (sL none 0 0) (aI (aJ hs rfl) rfl rfl ?_))));rintro _ H2 _ ⟨Z,rfl,(b2:HS _ _ _ [(fP Z [(iI 0),(iI 0)])] _),_⟩;refine ab 3 rfl (wT 1 [] 8 10 [] [(10,(.bool (decide ((20000:Int)<(s.length:Int)))))] rfl fun _=>zd 1 2 (fun c4=>?_) fun c4=>?_)
 ·refine aa (wTo 2 0 [] 2 2 [11] [(2,(sL none 0 0)),(11,(aG [(iI 6),(iI 20000)]))] rfl fun _=>aq (ae (q:=0) b2 rfl rfl rfl rfl rfl rfl rfl rfl rfl) rfl ?_);rintro _ H6 _ ⟨(b3:HS _ _ _ [(fP Z [(iI 6),(iI 20000)])] _),_⟩;refine ab 1 rfl (ah ⟨.inr rfl,_,(rT rfl (rC rfl (bI rfl rfl (HS.hc b3 (i:=0) rfl) rfl) rN)),none,0,([]:List Token),[],(⟨6,20000⟩:ErrT),_,fR,(HS.cons (HS.forget b3)),rfl,(OS.nil:OS _ _ _ []),(by(dsimp only;omega)),(by(dsimp only;omega)),(by rw[av,if_pos (by omega)]),(by rw[av,if_pos (by omega)])⟩)
 refine wT 3 [] 1 0 [4] [(4,(sL none 0 0))] rfl fun _=>wU 2 [(1,.o (iI ((spl false s:Nat):Int)))] 12 13 [5] [(5,(iI ((spl false s:Nat):Int)))] (gU ex s H2 (by omega)) rfl fun _=>?_
 have U:=HS.snoc b2;have U:HS _ _ _ [_,[]] _:=U;refine aA (fun(mm:Nat) f H'=> ∃(at_:Nat) (l:List Token) (h:Nat) (z:Option Addr) (A:Nat) (E:Fp) (F':Fz),Fz.le F F'/\HS (Base.of H []) F' H' [(fP Z [(iI 0),(iI 0)]),E] R/\OS F' (sL z l.length A) l E/\aX f [(0,(.string ⟨⟨s⟩⟩)),(3,(pT Z 0)),(4,(sL z l.length A)),(5,(iI (at_:Int)))]/\mm=s.length-at_/\(at_<=s.length)/\(s.length-at_<h)/\(preT l (cY h s at_)=av s)/\(l.length<=at_)) _ ⟨spl false s,([]:List Token),s.length+1,none,0,[],_,fR,U,(OS.nil:OS _ (sL none 0 0) ([]:List Token) []),⟨rfl,rfl,rfl,rfl,trivial⟩,rfl,(gT s false),(by omega),(by rw[av,if_neg (by omega)];(first|done|exact pre_nil _)),(a0t _)⟩ ?_;rintro dk f9 H9 ⟨at_,l,h,z,A,E,F9,a0,ba,O,b0,rfl,h1,hf,h2,h3⟩ ch;refine aN _ b0 (fun _=>?_);clear b0;refine am 2 rfl (wT 1 [] 14 17 [] [(17,(.bool (decide ((at_:Int)<(s.length:Int)))))] rfl fun _=>zd 4 5 (fun cd=>?_) fun cd=>?_)
 ·have hd:(s.drop at_).length=s.length-at_:=a0f ..;have q:=jJ (s:=s.drop at_) (by omega);have sp:=gT (s.drop (at_+(ar (s.drop at_)).2.1.length)) false;rw[a0f]at sp;refine aa (wUo 3 0 [] 25 27 [] [(27,(.string ⟨⟨s.drop at_⟩⟩))] (vA (show(0:Int)<=(at_:Int) from by omega) (show(at_:Int)<=(((s:List UInt8).length:Nat):Int) from by omega)) rfl fun _=>zc (first_c ex (s.drop at_) (HS.call ba) (by omega) (by omega)) ?_);rintro _ co ⟨dn,c9,cm,T,V,rfl,b9,cb,rfl,rfl⟩;replace V:HS _ _ _ [_,E] _:=HS.back ba rfl V;replace O:=O.mono T;refine wTo 3 4 [] 29 30 [24] [(29,(aG [(iI ((Token.mk (ar (s.drop at_)).1 (Str.mk (ar (s.drop at_)).2.1) 0).kind)),(.string ⟨⟨(Token.mk (ar (s.drop at_)).1 (Str.mk (ar (s.drop at_)).2.1) 0).text.b⟩⟩),(iI ((Token.mk (ar (s.drop at_)).1 (Str.mk (ar (s.drop at_)).2.1) 0).at_))])),(30,(iI ((ar (s.drop at_)).2.2)))] rfl fun _=>aI (aJ V rfl) rfl rfl ?_
  rintro _ cw _ ⟨Y,rfl,(b8:HS _ _ _ [_,_,(fP Y [(iI 0),(.string ⟨⟨[]⟩⟩),(iI 0)])] _),_⟩;refine aq (ae (q:=2) b8 rfl rfl rfl rfl rfl rfl rfl rfl rfl) rfl ?_;rintro _ c0 _ ⟨(a1:HS _ _ _ [_,_,(fP Y [(iI ((Token.mk (ar (s.drop at_)).1 (Str.mk (ar (s.drop at_)).2.1) 0).kind)),(.string ⟨⟨(Token.mk (ar (s.drop at_)).1 (Str.mk (ar (s.drop at_)).2.1) 0).text.b⟩⟩),(iI ((Token.mk (ar (s.drop at_)).1 (Str.mk (ar (s.drop at_)).2.1) 0).at_))])] _),_⟩;refine za (iI ((ar (s.drop at_)).2.2)) (ab 3 rfl (wT 1 [] 31 32 [] [(32,(.bool ((ar (s.drop at_)).2.2 !=0)))] rfl fun _=>zi 1 2 (fun an=>?_) fun an=>?_))
  ·try simp only[BS]at an
   refine aa (wTo 4 0 [] 33 35 [2] [(2,(sL none 0 0)),(35,(aG [(iI ((ar (s.drop at_)).2.2)),(iI (at_:Int))]))] rfl fun _=>aq (ae (q:=0) a1 rfl rfl rfl rfl rfl rfl rfl rfl rfl) rfl ?_);rintro _ c3 _ ⟨(a2:HS _ _ _ [(fP Z [(iI ((ar (s.drop at_)).2.2)),(iI (at_:Int))]),_,_] _),_⟩;refine ab 1 rfl (ah ⟨.inr rfl,_,(rT rfl (rC rfl (bI rfl rfl (HS.hc a2 (i:=0) rfl) rfl) rN)),none,0,([]:List Token),[],(⟨(ar (s.drop at_)).2.2,(at_:Int)⟩:ErrT),_,(fT (a0) T),(HS.cons (HS.forget a2)),rfl,(OS.nil:OS _ _ _ []),(by(dsimp only;omega)),(by(dsimp only;omega)),(by rw[j5 (by omega) hf (by omega) h2]),(by rw[j5 (by omega) hf (by omega) h2])⟩)
  try simp only[BS]at an
  refine aa (wTo 2 0 [] 36 37 [] [(36,(iI (at_:Int))),(37,(pT Y 2))] rfl fun _=>aq (ae (q:=2) a1 rfl rfl rfl rfl rfl rfl rfl rfl rfl) rfl ?_);rintro _ c5 _ ⟨(a3:HS _ _ _ [_,_,(fP Y [(iI ((Token.mk (ar (s.drop at_)).1 (Str.mk (ar (s.drop at_)).2.1) 0).kind)),(.string ⟨⟨(Token.mk (ar (s.drop at_)).1 (Str.mk (ar (s.drop at_)).2.1) 0).text.b⟩⟩),(iI (at_:Int))])] _),_⟩;let bb:Value:=(aG [(iI ((Token.mk (ar (s.drop at_)).1 (Str.mk (ar (s.drop at_)).2.1) 0).kind)),(.string ⟨⟨(Token.mk (ar (s.drop at_)).1 (Str.mk (ar (s.drop at_)).2.1) 0).text.b⟩⟩),(iI (at_:Int))])
  refine ab 2 rfl (aa (wUo 2 0 [(1,.o bb)] 38 39 [] [(38,(sL z l.length A)),(39,bb)] (qn 55 0 3 (HS.hc a3 (i:=2) rfl) rfl rfl rfl rfl) rfl fun _=>aI (a5 (α:=Token) (ps:=[(0,bb)]) (cells:=[(iI ((Token.mk (ar (s.drop at_)).1 (Str.mk (ar (s.drop at_)).2.1) 0).kind)),(.string ⟨⟨(Token.mk (ar (s.drop at_)).1 (Str.mk (ar (s.drop at_)).2.1) 0).text.b⟩⟩),(iI (at_:Int))]) ([(⟨(Token.mk (ar (s.drop at_)).1 (Str.mk (ar (s.drop at_)).2.1) 0).kind,⟨(Token.mk (ar (s.drop at_)).1 (Str.mk (ar (s.drop at_)).2.1) 0).text.b⟩,(at_:Int)⟩:Token)]:List Token) a3 rfl rfl rfl (by kernel_rfl) ⟨[(iI ((Token.mk (ar (s.drop at_)).1 (Str.mk (ar (s.drop at_)).2.1) 0).kind)),(.string ⟨⟨(Token.mk (ar (s.drop at_)).1 (Str.mk (ar (s.drop at_)).2.1) 0).text.b⟩⟩),(iI (at_:Int))],[],rfl,⟨rfl,by omega,by(dsimp only;omega)⟩,rfl⟩ rfl) rfl rfl ?_));rintro _ c6 ci ⟨c8,dd,rfl,b6,(a4:HS _ _ _ [_,_,_,ci] _),_⟩;refine aI (bX (α:=Token) (q:=1) O a4 rfl rfl rfl (OS.sv b6 a4 (i:=3) rfl) rfl rfl rfl rfl rfl rfl rfl (by(simp only[a01,a07,List.length_nil];omega))) rfl rfl ?_;rintro _ cc b5 ⟨bl,b4,rfl,b7,(a8:HS _ _ _ [_,b5,_,_] _),_⟩;refine za (sL bl (l++([(⟨(Token.mk (ar (s.drop at_)).1 (Str.mk (ar (s.drop at_)).2.1) 0).kind,⟨(Token.mk (ar (s.drop at_)).1 (Str.mk (ar (s.drop at_)).2.1) 0).text.b⟩,(at_:Int)⟩:Token)]:List Token)).length b4) (ab 1 rfl (wR 2 [(2,.o (.string ⟨⟨(Token.mk (ar (s.drop at_)).1 (Str.mk (ar (s.drop at_)).2.1) 0).text.b⟩⟩))] 42 46 [5] [(5,(iI ((at_:Int)+(((Token.mk (ar (s.drop at_)).1 (Str.mk (ar (s.drop at_)).2.1) 0).text.b).length:Int))))] (vA (ql 9 1 (HS.hc a8 (i:=2) rfl) rfl rfl) (vA (vi (n:=(at_:Int)+(((Token.mk (ar (s.drop at_)).1 (Str.mk (ar (s.drop at_)).2.1) 0).text.b).length:Int))) trivial)) rfl fun _=>wR 1 [(4,.o (iI ((spl false (s.drop (at_+(((Token.mk (ar (s.drop at_)).1 (Str.mk (ar (s.drop at_)).2.1) 0).text.b).length))):Nat):Int)))] 18 23 [5] [(5,(iI (((at_:Int)+(((Token.mk (ar (s.drop at_)).1 (Str.mk (ar (s.drop at_)).2.1) 0).text.b).length:Int))+((spl false (s.drop (at_+(((Token.mk (ar (s.drop at_)).1 (Str.mk (ar (s.drop at_)).2.1) 0).text.b).length))):Nat):Int))))] (vA (vA (show(0:Int)<=(at_:Int)+(((Token.mk (ar (s.drop at_)).1 (Str.mk (ar (s.drop at_)).2.1) 0).text.b).length:Int) from by omega) (show(at_:Int)+(((Token.mk (ar (s.drop at_)).1 (Str.mk (ar (s.drop at_)).2.1) 0).text.b).length:Int)<=(((s:List UInt8).length:Nat):Int) from by(dsimp only;omega))) (vA (gU ex (s.drop (at_+(((Token.mk (ar (s.drop at_)).1 (Str.mk (ar (s.drop at_)).2.1) 0).text.b).length))) cc (by(rw[a0f];omega))) (vA (vi (n:=((at_:Int)+(((Token.mk (ar (s.drop at_)).1 (Str.mk (ar (s.drop at_)).2.1) 0).text.b).length:Int))+((spl false (s.drop (at_+(((Token.mk (ar (s.drop at_)).1 (Str.mk (ar (s.drop at_)).2.1) 0).text.b).length))):Nat):Int)) (by(dsimp only;omega))) trivial))) rfl fun _=>?_));refine ch _ _ _ ?_ ⟨(at_+(((Token.mk (ar (s.drop at_)).1 (Str.mk (ar (s.drop at_)).2.1) 0).text.b).length))+(spl false (s.drop (at_+(((Token.mk (ar (s.drop at_)).1 (Str.mk (ar (s.drop at_)).2.1) 0).text.b).length)))),l++([(⟨(Token.mk (ar (s.drop at_)).1 (Str.mk (ar (s.drop at_)).2.1) 0).kind,⟨(Token.mk (ar (s.drop at_)).1 (Str.mk (ar (s.drop at_)).2.1) 0).text.b⟩,(at_:Int)⟩:Token)]:List Token),h-1,bl,b4,b5,_,(fT (a0) T),(HS.sub a8 (a06 _ _)),b7,⟨rfl,rfl,rfl,rfl,trivial⟩,rfl,(by dsimp only;omega),(by dsimp only;omega),(scan_step (by omega) hf (by omega) h2),(by rw[a01,List.length_singleton];dsimp only;omega)⟩;dsimp only;omega
 refine aa (wTo 3 0 [] 47 48 [2] [(2,(sL z l.length A)),(48,(aG [(iI 0),(iI 0)]))] rfl fun _=>aq (ae (q:=0) ba rfl rfl rfl rfl rfl rfl rfl rfl rfl) rfl ?_);rintro _ c7 _ ⟨(a9:HS _ _ _ [_,E] _),_⟩;refine ab 1 rfl (ah ⟨.inr rfl,_,(rT rfl (rC rfl (bI rfl rfl (HS.hc a9 (i:=0) rfl) rfl) rN)),z,A,l,E,(⟨0,0⟩:ErrT),_,(a0),(HS.only a9 (i:=1) rfl),rfl,O,(by(dsimp only;omega)),(by(dsimp only;omega)),(by rw[im (by omega) h2]),(by rw[im (by omega) h2])⟩)
def en(n m:Int):Int:=bif decide (Int.tmod n m<0) then Int.tmod n m+m else Int.tmod n m
theorem pick_c(n:Int)(m:Int)(H:Heap)(h:0<m/\m<9223372036854775808):kKt ex 14 [(iI n),(iI m)] H fun v H'=> ∃(r:Int),H'=H/\v= .int .i64 r/\r=en n m/\(0<=r/\r<m):=by
 have E: -m<n.tmod m:=Int.lt_tmod_of_pos n h.1;have O:n.tmod m<m:=Int.tmod_lt_of_pos n h.1;refine aD Try.func14 rfl rfl (am 1 rfl (wT 2 [] 4 4 [] [(4,(iI 0))] rfl fun _=>wU 3 [] 5 7 [0] [(0,(iI (Int.tmod n m)))] (show m≠0 from by omega) rfl fun _=>wT 1 [] 8 9 [] [(9,(.bool (decide (Int.tmod n m<0))))] rfl fun _=>zi 0 2 (fun z=>?_) fun z=>?_))
 ·have A:=z;try simp only[BS]at A
  refine wU 2 [] 10 12 [0] [(0,(iI ((Int.tmod n m)+m)))] (vi (n:=(Int.tmod n m)+m)) rfl fun _=>wT 1 [] 4 4 [13] [(4,(iI ((Int.tmod n m)+m)))] rfl fun _=>ah ⟨.inr rfl,_,rfl,(Int.tmod n m)+m,rfl,rfl,(by simp only[en,z,cond_true,cond_false]),(by omega)⟩
 have A:=z;try simp only[BS]at A
 refine wT 1 [] 4 4 [13] [(4,(iI (Int.tmod n m)))] rfl fun _=>ah ⟨.inr rfl,_,rfl,Int.tmod n m,rfl,rfl,(by simp only[en,z,cond_true,cond_false]),(by omega)⟩
end Go.Proofs.Ytapgbjedgcpffaa.l1
