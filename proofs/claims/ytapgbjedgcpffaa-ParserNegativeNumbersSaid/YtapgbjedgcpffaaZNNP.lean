/-
Plain laws: what the functions compute answers as the statement says. No condition beyond those that each statement names.
-/
import Derived.Test.YtapgbjedgcpffaaZNPH
import Derived.KernelRfl
noncomputable section
namespace Go.Proofs.Ytapgbjedgcpffaa.np
open Go.R w1 w3 l1 pt pa pb pc pd pe pf pg ph
set_option linter.unusedVariables false
set_option linter.unusedSimpArgs false
theorem par_ok{s:List UInt8}{ts:List Token}{p:PrgT}{e:ErrT}{x:List ArrT×List FunT}{j c:Nat}(hs:az s=(ts,0,0))(h: ∀m,iz ts (m+c) [] [] 0= .ok (x,j))(q:ParR s p e):p=⟨x.1,x.2⟩/\e=⟨0,0⟩:=by
 unfold ParR at q;rw[hs,if_pos rfl]at q;obtain⟨y,i,b,O,_,A,E⟩:=q;rcases O with⟨Y,l,_,U,V⟩|⟨_,l,_,U,V⟩
 ·have:=(V (U+c) (a1q ..)).symm.trans (h U);injection this with z;injection z with z T;rw[Y]at A E;rw[←z];exact⟨A,E⟩
 have:=(V (U+c) (a1q ..)).symm.trans (h U);cases this
theorem par_bad{s:List UInt8}{ts:List Token}{p:PrgT}{e:ErrT}{j c:Nat}(hs:az s=(ts,0,0))(h: ∀m,iz ts (m+c) [] [] 0= .error j)(q:ParR s p e):p=⟨[],[]⟩/\e=⟨2,offV ts j s.length⟩:=by
 unfold ParR at q;rw[hs,if_pos rfl]at q;obtain⟨y,i,b,O,_,A,z⟩:=q;rcases O with⟨_,l,_,T,U⟩|⟨V,l,Y,T,U⟩
 ·have:=(U (T+c) (a1q ..)).symm.trans (h T);cases this
 have:=(U (T+c) (a1q ..)).symm.trans (h T);injection this with E;rw[V]at A z;rw[Y,E]at z;exact⟨A,z⟩
theorem scn{s t rest:List UInt8}{a f b:Nat}{A:Int}(h:s.drop a=t++rest)(O:aj (t++rest)=(A,t,0))(U:0<t.length)(E:spl false rest=b):cF (f+1) s a=consT ⟨A,⟨t⟩,(a:Int)⟩ (cF f s (a+t.length+b))/\s.drop (a+t.length+b)=rest.drop b:=by
 have T:=congrArg List.length h;rw[a0F,a02]at T;have z:s.drop (a+t.length)=rest:=by rw[←a1y,h,List.drop_left]
 refine⟨?_,by rw[←a1y,z]⟩;rw[cF,if_pos (by omega),h,O,if_pos rfl];show consT _ (cF f s (a+t.length+spl false (s.drop (a+t.length))))=_;rw[z,E]
theorem scn_end{s:List UInt8}{a f:Nat}(h:s.drop a=[]):cF f s a=([],0,0):=by
 cases f with
 |zero=>rfl
 |succ f=>
  have z:=congrArg List.length h
  rw[a0F,a07]at z
  rw[cF,if_neg (by omega)]
theorem con0{t:Token}{l:List Token}:consT t (l,0,0)=(t::l,0,0):=rfl
theorem tw_app{p:UInt8->Bool}: ∀{a b:List UInt8},a.all p=true->(∀c r,b=c::r->p c=false)->(a++b).takeWhile p=a
 | [],[],_,_=>rfl
 | [],c::r,_,h=>by rw[a0L,a1i,h c r rfl];rfl
 |x::a,b,ha,h=>by simp only[a0A,a04]at ha;rw[a0n,a1i,ha.1];show x::(a++b).takeWhile p=x::a;rw[tw_app ha.2 h]
theorem first_num{d rest:List UInt8}(h:eg d=true)(E:val d<=9223372036854775808)(A: ∀c r,rest=c::r->fb c=false):aj (d++rest)=(2,d,0):=by
 have z:=ca.1 h;have O:aE (d++rest)=d.length:=by unfold aE;rw[tw_app (a0f.2 fun c hc=>?_) A];have:=(a0f.1 z.2.2.1) c hc;unfold fb;rw[show bz c=true from this,Bool.or_true]
 cases d with
 |nil=>exact absurd z.1 (by decide)
 |cons x d=>
  have T:bz x=true:=by have:=(a0f.1 z.2.2.1) x (a1e ..);exact this
  unfold aj
  rw[O,if_neg (by rw[a05];omega),if_pos (show bz ((x::d++rest).getD 0 0)=true from T),List.take_left,if_pos ((vn_iff (by simp)).2 ⟨h,E⟩)]
def minT:Nat->Nat->List Token
 |0,_=> []
 |k+1,a=>⟨3,⟨[45]⟩,(a:Int)⟩::minT k (a+2)
def iA:Nat->List UInt8
 |0=> []
 |k+1=>45::32::iA k
theorem minS_len: ∀k,(iA k).length=2 *k
 |0=>rfl
 |k+1=>by rw[iA,a05,a05,minS_len k];omega
theorem minS_snoc: ∀k,iA k++[45,32]=iA (k+1)
 |0=>rfl
 |k+1=>by rw[iA,a0n,a0n,minS_snoc k];rfl
theorem spl_dig{d rest:List UInt8}(h:eg d=true):spl false (d++rest)=0:=by
 have z:=ca.1 h;cases d with
 |nil=>exact absurd z.1 (by decide)
 |cons x d=>
  have A:=im.1 ((a0f.1 z.2.2.1) x (a1e ..))
  rw[a0n,spl,if_neg,if_neg]
  ·rintro rfl;revert A;decide
  rintro(rfl|rfl|rfl|rfl)<;>(revert A;decide)
theorem spl_min{d rest:List UInt8}(h:eg d=true): ∀k,spl false (iA k++(d++rest))=0
 |0=>show spl false (d++rest)=0 from spl_dig h
 |k+1=>by rw[iA,a0n,spl,if_neg (by decide),if_neg (by decide)]
def endT(d:List UInt8)(a:Nat):List Token:=[⟨2,⟨d⟩,(a:Int)⟩,⟨3,⟨[59]⟩,((a+d.length:Nat):Int)⟩,⟨3,⟨[125]⟩,((a+d.length+2:Nat):Int)⟩]
theorem scan_endT{s d:List UInt8}{a f:Nat}(h:eg d=true)(Z:val d<=9223372036854775808)(V:s.drop a=d++[59,32,125]):cF (f+3) s a=(endT d a,0,0):=by have Y:=ca.1 h;obtain⟨O,z⟩:=scn (f:=f+2) (b:=0) V (first_num h Z (by intro c r e;injection e with e;rw[←e];rfl)) Y.1 rfl;obtain⟨T,A⟩:=scn (f:=f+1) (t:=[59]) (rest:=[32,125]) (b:=1) z rfl (by decide) rfl;obtain⟨U,E⟩:=scn (f:=f) (t:=[125]) (rest:=[]) (b:=0) A rfl (by decide) rfl;rw[O,T,U,scn_end E,con0,con0,con0];rfl
theorem scan_minT{s d:List UInt8}(h:eg d=true)(E:val d<=9223372036854775808): ∀k a f,s.drop a=iA k++(d++[59,32,125])->cF (f+3+k) s a=(minT k a++endT d (a+2 *k),0,0)
 |0,a,f,hd=>scan_endT h E hd
 |k+1,a,f,hd=>by obtain⟨A,z⟩:=scn (f:=f+3+k) (t:=[45]) (rest:=32::(iA k++(d++[59,32,125]))) (b:=1) hd rfl (by decide) (by rw[spl,if_pos (by decide),spl_min h]);rw[show f+3+(k+1)=f+3+k+1 from rfl,A,scan_minT h E k _ f z,con0];show((⟨3,⟨[45]⟩,(a:Int)⟩::minT k (a+2))++endT d (a+1+1+2 *k),(0:Int),(0:Int))=_;rw[show a+1+1+2 *k=a+2 *(k+1) by omega];rfl
def hdS:List UInt8:=[102,117,110,99,32,102,40,41,32,123,32,114,101,116,117,114,110,32]
def hdT:List Token:=[⟨1,⟨[102,117,110,99]⟩,0⟩,⟨1,⟨[102]⟩,5⟩,⟨3,⟨[40]⟩,6⟩,⟨3,⟨[41]⟩,7⟩,⟨3,⟨[123]⟩,9⟩,⟨1,⟨[114,101,116,117,114,110]⟩,11⟩]
theorem scan_neg{d:List UInt8}(h:eg d=true)(hv:val d<=9223372036854775808)(k:Nat)(hk:k<=5):az (hdS++(iA k++(d++[59,32,125])))=(hdT++(minT k 18++endT d (18+2 *k)),0,0):=by
 have hd:=(ca.1 h).2.1;have hl:(hdS++(iA k++(d++[59,32,125]))).length=21+2 *k+d.length:=by simp only[a02,minS_len,hdS,a05,a07];omega
 rw[az,if_neg (by omega),hl];generalize hs:hdS++(iA k++(d++[59,32,125]))=s;have d0:s.drop 0=[102,117,110,99]++([32,102,40,41,32,123,32,114,101,116,117,114,110,32]++(iA k++(d++[59,32,125]))):=by rw[←hs];rfl
 obtain⟨f,hf⟩: ∃f,21+2 *k+d.length+1=f+3+k+1+1+1+1+1+1:=⟨13+k+d.length,by omega⟩
 rw[hf,show spl false s=0 by rw[←hs];rfl];obtain⟨V,z⟩:=scn (f:=f+3+k+1+1+1+1+1) (b:=1) d0 rfl (by decide) rfl;obtain⟨Y,A⟩:=scn (f:=f+3+k+1+1+1+1) (t:=[102]) (rest:=[40,41,32,123,32,114,101,116,117,114,110,32]++(iA k++(d++[59,32,125]))) (b:=0) z rfl (by decide) rfl;obtain⟨Z,E⟩:=scn (f:=f+3+k+1+1+1) (t:=[40]) (rest:=[41,32,123,32,114,101,116,117,114,110,32]++(iA k++(d++[59,32,125]))) (b:=0) A rfl (by decide) rfl;obtain⟨e4,O⟩:=scn (f:=f+3+k+1+1) (t:=[41]) (rest:=[32,123,32,114,101,116,117,114,110,32]++(iA k++(d++[59,32,125]))) (b:=1) E rfl (by decide) rfl;obtain⟨e5,T⟩:=scn (f:=f+3+k+1) (t:=[123]) (rest:=[32,114,101,116,117,114,110,32]++(iA k++(d++[59,32,125]))) (b:=1) O rfl (by decide) rfl;obtain⟨e6,U⟩:=scn (f:=f+3+k) (t:=[114,101,116,117,114,110]) (rest:=32::(iA k++(d++[59,32,125]))) (b:=1) T rfl (by decide) (by rw[spl,if_pos (by decide),spl_min h]);rw[V,Y,Z,e4,e5,e6,scan_minT h hv k _ f U,con0,con0,con0,con0,con0,con0];rfl
theorem bin_of{ts:List Token}{x:ExpT}{i j m:Nat}(h:gH ts m i= .ok (x,j))(z: ∀k,k<8->opK ts k j=0): ∀q,q<=8->binM ts (m+1+q) (8-q) i= .ok (x,j)
 |0,_=>by rw[show m+1+0=m+1 from rfl,binM,if_pos rfl];exact h
 |q+1,hq=>by rw[show m+1+(q+1)=m+1+q+1 from rfl,binM,if_neg (by omega),show 8-(q+1)+1=8-q by omega,bin_of h z q (by omega)];show loopM ts (m+1+q) (8-(q+1)) x j=_;rw[show m+1+q=(m+q)+1 by omega,loopM,if_pos (z _ (by omega))]
theorem expr_of{ts:List Token}{x:ExpT}{i j m:Nat}(h:gH ts m i= .ok (x,j))(z: ∀k,k<8->opK ts k j=0)(A:isS ts j [63]=false):db ts (m+10) i= .ok (x,j):=by rw[show m+10=m+9+1 from rfl,db];rw[show binM ts (m+9) 0 i= .ok (x,j) from bin_of h z 8 (a06 _)];show(if isS ts j [63]=true then _ else _)=_;rw[A];rfl
def negE:Nat->ExpT->ExpT
 |0,x=>x
 |k+1,x=>mkE 4 0 iE 20 [negE k x]
theorem una_neg{ts:List Token}{x:ExpT}{l m:Nat}: ∀j i,(∀q,q<j->isS ts (i+q) [45]=true/\isM ts (i+q+1)=false)->gH ts m (i+j)= .ok (x,l)->gH ts (m+j) i= .ok (negE j x,l)
 |0,i,_,h=>h
 |j+1,i,hq,h=>by have ih:=una_neg j (i+1) (fun q A=>by rw[show i+1+q=i+(q+1) by omega];exact hq (q+1) (by omega)) (by rw[show i+1+j=i+(j+1) by omega];exact h);have z:=hq 0 (by omega);rw[show m+(j+1)=m+j+1 from rfl,gH,if_pos (show isS ts i [45]=true from z.1),if_neg (by rw[show isM ts (i+1)=false from z.2];decide),ih];rfl
theorem una_last{ts:List Token}{i m:Nat}(h:isS ts i [45]=true)(z:isM ts (i+1)=true):gH ts (m+1) i= .ok (numE ((av (45::(ts.getD (i+1) default).text.b)).getD 0),i+2):=by rw[gH,if_pos h,if_pos z]
theorem una_num{ts:List Token}{i m:Nat}{v:Int}(z:isM ts i=true)(A:numV ts i=some v):gH ts (m+2) i= .ok (numE v,i+1):=by
 have h: ∀w,isS ts i w=false:=by intro w;unfold isM at z;unfold isS;have:=of_decide_eq_true z;rw[this];rfl
 rw[show m+2=m+1+1 from rfl,gH,if_neg (by rw[h];decide),if_neg (by rw[h];decide),if_neg (by rw[h];decide),if_neg (by rw[h];decide),priM,if_pos z,A];rfl
theorem bnd_ok{α β:Type}{x:α}{i:Nat}{f:α->Nat->Rs β}:bnd (.ok (x,i)) f=f x i:=rfl
theorem prg_of{X:List Token}{x:ExpT}{j m:Nat}(h:db (hdT++X) (m+2) 6= .ok (x,j))(z:isS (hdT++X) j [59]=true)(A:isS (hdT++X) (j+1) [125]=true)(hl:(hdT++X).length=j+2):iz (hdT++X) (m+3) [] [] 0= .ok (([],[mkF ⟨[102]⟩ [] [] [] x]),j+2):=by
 have hf:funM (hdT++X) (m+2) 1= .ok (mkF ⟨[102]⟩ [] [] [] x,j+2):=by
  have E:fC (hdT++X) 1= .ok (⟨[102]⟩,2):=rfl;have O:ei (hdT++X) [40] 2= .ok ((),3):=rfl;have T:isS (hdT++X) 3 [41]=true:=rfl;have U:ei (hdT++X) [41] 3= .ok ((),4):=rfl;have V:isK (hdT++X) 4 [118,97,114]=false:=rfl;have Y:ei (hdT++X) [123] 4= .ok ((),5):=rfl;have Z:jf (hdT++X) (m+2) [] 5= .ok ([],6):=rfl;have q7:ei (hdT++X) [59] j= .ok ((),j+1):=by unfold ei;rw[if_pos z]
  have q8:ei (hdT++X) [125] (j+1)= .ok ((),j+1+1):=by unfold ei;rw[if_pos A]
  unfold funM;simp only[E,bnd_ok,O,T,U,V,Y,Z,h,q7,q8,if_true,a0a,if_false]
 rw[show m+3=m+2+1 from rfl,iz,if_neg (by rw[hl];omega),if_neg (show ¬isK (hdT++X) 0 [97,114,114,97,121]=true from(show ¬(false=true) by decide))];rw[show keyM (hdT++X) [102,117,110,99] 0= .ok ((),1) from rfl];show bnd (funM (hdT++X) (m+2) 1) _=_;rw[hf];show iz (hdT++X) (m+2) [] [mkF ⟨[102]⟩ [] [] [] x] (j+2)=_;rw[show m+2=m+1+1 from rfl,iz,if_pos (by rw[hl];exact a06 _)]
theorem minT_at{r:List Token}: ∀{k q a:Nat},q<k->(minT k a++r).getD q default=⟨3,⟨[45]⟩,((a+2 *q:Nat):Int)⟩
 |k+1,0,a,_=>rfl
 |k+1,q+1,a,h=>by show(minT k (a+2)++r).getD q default=_;rw[minT_at (by omega),show a+2+2 *q=a+2 *(q+1) by omega]
theorem minT_len: ∀k a,(minT k a).length=k
 |0,_=>rfl
 |k+1,a=>by rw[minT,a05,minT_len]
theorem minT_on{r:List Token}: ∀k q a,(minT k a++r).getD (q+k) default=r.getD q default
 |0,_,_=>rfl
 |k+1,q,a=>by show(minT k (a+2)++r).getD (q+k) default=_;exact minT_on k q (a+2)
def negX(k:Nat)(n:Int):ExpT:=if k=0 then numE n else negE (k-1) (numE (-n))
theorem parse_neg{n:Int}(h:0<=n/\n<9223372036854775808):(av (45::dl n)).getD 0= -n:=by
 by_cases z:n=0
 ·rw[z,show dl 0=[48] by unfold dl;rw[if_neg (by decide)];exact cb (by decide)];decide
 have:=iR (n:= -n) ⟨by omega,by omega⟩;unfold dl at this;rw[if_pos (by omega)]at this;unfold dl;rw[if_neg (by omega),show n.toNat=(-n).natAbs by omega,this];rfl
theorem num_neg{n:Int}(h:0<=n/\n<9223372036854775808):eg (dl n)=true/\val (dl n)<=9223372036854775808:=by unfold dl;rw[if_neg (by omega)];exact⟨hU (by omega),by rw[gZ];omega⟩
theorem par_neg{n:Int}{k:Nat}{p:PrgT}{e:ErrT}(h:0<=n/\n<9223372036854775808)(hk:k<=5)(q:ParR (hdS++(iA k++(dl n++[59,32,125]))) p e):p=⟨[],[mkF ⟨[102]⟩ [] [] [] (negX k n)]⟩/\e=⟨0,0⟩:=by
 obtain⟨hn,hv⟩:=num_neg h;have hs:=scan_neg hn hv k hk;refine par_ok (x:=([],[mkF ⟨[102]⟩ [] [] [] (negX k n)])) (j:=k+7+2) (c:=k+13) hs (fun m=>?_) q;generalize V:minT k 18++endT (dl n) (18+2 *k)=X;have U: ∀q,q<k->(hdT++X).getD (6+q) default=⟨3,⟨[45]⟩,((18+2 *q:Nat):Int)⟩:=fun q Y=>by rw[show 6+q=q+6 by omega];show X.getD q default=_;rw[←V];exact minT_at Y
 have z: ∀q,(hdT++X).getD (q+k+6) default=(endT (dl n) (18+2 *k)).getD q default:=fun q=>by show X.getD (q+k) default=_;rw[←V];exact minT_on k q 18
 have E:=z 0;have O:=z 1;have T:=z 2;have Z:isM (hdT++X) (6+k)=true:=by unfold isM;rw[show 6+k=0+k+6 by omega,E];rfl
 have hu:gH (hdT++X) (m+2+k) 6= .ok (negX k n,k+7):=by
  unfold negX;by_cases A:k=0
  ·subst A;rw[if_pos rfl];refine una_num Z ?_;unfold numV;rw[E];exact iR ⟨by omega,by omega⟩
  rw[if_neg A];obtain⟨j,rfl⟩: ∃j,k=j+1:=⟨k-1,by omega⟩
  rw[show m+2+(j+1)=m+2+1+j by omega];refine una_neg j 6 (fun q Y=>⟨?_,?_⟩) ?_
  ·unfold isS;rw[U q (by omega)];rfl
  ·unfold isM;rw[show 6+q+1=6+(q+1) by omega,U (q+1) (by omega)];rfl
  have:=una_last (ts:=hdT++X) (i:=6+j) (m:=m+2) (by unfold isS;rw[U j (by omega)];rfl) Z;rw[this,show 6+j+1=0+(j+1)+6 by omega,E];show Except.ok (numE ((av (45::dl n)).getD 0),6+j+2)=_;rw[parse_neg h,show 6+j+2=j+1+7 by omega]
 have hS:isS (hdT++X) (k+7) [59]=true:=by unfold isS;rw[show k+7=1+k+6 by omega,O];rfl
 have hx:db (hdT++X) (m+2+k+10) 6= .ok (negX k n,k+7):=by
  refine expr_of hu (fun q Y=>?_) ?_
  ·unfold opK;rw[show k+7=1+k+6 by omega,O];have:q=0\/q=1\/q=2\/q=3\/q=4\/q=5\/q=6\/q=7:=by omega
   rcases this with rfl|rfl|rfl|rfl|rfl|rfl|rfl|rfl<;>rfl
  unfold isS;rw[show k+7=1+k+6 by omega,O];rfl
 have:=prg_of (X:=X) (m:=m+k+10) (x:=negX k n) (j:=k+7) (by rw[show m+k+10+2=m+2+k+10 by omega];exact hx) hS (by unfold isS;rw[show k+7+1=2+k+6 by omega,T];rfl) (by rw[←V,a02,a02,minT_len];show 6+(k+3)=_;omega);rw[show m+(k+13)=m+k+10+3 by omega];exact this
def negI(k i:Nat)(n:Int):ExpT:=if k=0 then numE n else negE (k-i) (numE (-n))
theorem negI_st{k i:Nat}{n:Int}(h:i<k):negI k i n=mkE 4 0 iE 20 [negI k (i+1) n]:=by unfold negI;rw[if_neg (by omega),if_neg (by omega),show k-i=k-(i+1)+1 by omega];rfl
theorem jt{n:Int}(h:0<=n/\n<9223372036854775808): ∀k i,in64 (negI k i n).kind/\in64 (negI k i n).n/\in64 (negI k i n).op:=by
 intro k i;unfold negI;split
 ·exact⟨(by decide:in64 1),⟨by show-9223372036854775808<=n;omega,by show n<9223372036854775808;omega⟩,(by decide:in64 0)⟩
 cases k-i with
 |zero=>exact⟨(by decide:in64 1),⟨by show-9223372036854775808<= -n;omega,by show-n<9223372036854775808;omega⟩,(by decide:in64 0)⟩
 |succ j=>exact⟨(by decide:in64 4),(by decide:in64 0),(by decide:in64 20)⟩
theorem negI_end{k i:Nat}{n:Int}(z:1<=i)(h:k<=i):negI k i n=numE (if k=0 then n else-n):=by
 unfold negI;split
 ·rfl
 rw[show k-i=0 by omega];rfl
def badT:List Token:=hdT++[⟨2,⟨[57,50,50,51,51,55,50,48,51,54,56,53,52,55,55,53,56,48,56]⟩,18⟩,⟨3,⟨[59]⟩,37⟩,⟨3,⟨[125]⟩,39⟩]
def badS:List UInt8:=[102,117,110,99,32,102,40,41,32,123,32,114,101,116,117,114,110,32,57,50,50,51,51,55,50,48,51,54,56,53,52,55,55,53,56,48,56,59,32,125]
def okT:List Token:=hdT++[⟨3,⟨[45]⟩,18⟩,⟨2,⟨[57,50,50,51,51,55,50,48,51,54,56,53,52,55,55,53,56,48,56]⟩,19⟩,⟨3,⟨[59]⟩,38⟩,⟨3,⟨[125]⟩,40⟩]
def okS:List UInt8:=[102,117,110,99,32,102,40,41,32,123,32,114,101,116,117,114,110,32,45,57,50,50,51,51,55,50,48,51,54,56,53,52,55,55,53,56,48,56,59,32,125]
theorem bad_scan:az badS=(badT,0,0):=by kernel_rfl
theorem ok_scan:az okS=(okT,0,0):=by kernel_rfl
theorem jE{α β:Type}{p:Nat}{f:α->Nat->Rs β}:bnd (.error p:Rs α) f= .error p:=rfl
theorem bin_err{ts:List Token}{i p m:Nat}(h:gH ts m i= .error p): ∀q,q<=8->binM ts (m+1+q) (8-q) i= .error p
 |0,_=>by rw[show m+1+0=m+1 from rfl,binM,if_pos rfl];exact h
 |q+1,hq=>by rw[show m+1+(q+1)=m+1+q+1 from rfl,binM,if_neg (by omega),show 8-(q+1)+1=8-q by omega,bin_err h q (by omega),jE]
theorem expr_err{ts:List Token}{i p m:Nat}(h:gH ts m i= .error p):db ts (m+10) i= .error p:=by rw[show m+10=m+9+1 from rfl,db];rw[show binM ts (m+9) 0 i= .error p from bin_err h 8 (a06 _),jE]
theorem prg_err{X:List Token}{p m:Nat}(h:db (hdT++X) (m+2) 6= .error p):iz (hdT++X) (m+3) [] [] 0= .error p:=by
 have Y:funM (hdT++X) (m+2) 1= .error p:=by have z:fC (hdT++X) 1= .ok (⟨[102]⟩,2):=rfl;have A:ei (hdT++X) [40] 2= .ok ((),3):=rfl;have E:isS (hdT++X) 3 [41]=true:=rfl;have O:ei (hdT++X) [41] 3= .ok ((),4):=rfl;have T:isK (hdT++X) 4 [118,97,114]=false:=rfl;have U:ei (hdT++X) [123] 4= .ok ((),5):=rfl;have V:jf (hdT++X) (m+2) [] 5= .ok ([],6):=rfl;unfold funM;simp only[z,bnd_ok,A,E,O,T,U,V,h,if_true,a0a,if_false,jE]
 rw[show m+3=m+2+1 from rfl,iz,if_neg (show ¬(hdT++X).length<=0 from fun h=>by rw[a02]at h;have:hdT.length=6:=rfl;omega),if_neg (show ¬isK (hdT++X) 0 [97,114,114,97,121]=true from(show ¬(false=true) by decide))];rw[show keyM (hdT++X) [102,117,110,99] 0= .ok ((),1) from rfl,bnd_ok,Y,jE]
theorem bad_prg(m:Nat):iz badT (m+20) [] [] 0= .error 6:=by refine prg_err (m:=m+17) (expr_err (m:=m+9) ?_);rw[show m+9=m+7+1+1 from rfl,gH,if_neg (by decide),if_neg (by decide),if_neg (by decide),if_neg (by decide),priM,if_pos (by decide),if_neg (by decide)]
theorem ok_prg(m:Nat):iz okT (m+20) [] [] 0= .ok (([],[mkF ⟨[102]⟩ [] [] [] (numE (-9223372036854775808))]),10):=by
 refine prg_of (m:=m+17) (j:=8) (expr_of (m:=m+9) ?_ ?_ (by decide)) (by decide) (by decide) (by decide)
 ·exact una_last (m:=m+8) (i:=6) (by decide) (by decide)
 intro k h;have:k=0\/k=1\/k=2\/k=3\/k=4\/k=5\/k=6\/k=7:=by omega
 rcases this with rfl|rfl|rfl|rfl|rfl|rfl|rfl|rfl<;>decide
theorem par_big{p:PrgT}{e:ErrT}(q:ParR badS p e):e=⟨2,18⟩:=(par_bad bad_scan bad_prg q).2
theorem par_low{p:PrgT}{e:ErrT}(q:ParR okS p e):p=⟨[],[mkF ⟨[102]⟩ [] [] [] (numE (-9223372036854775808))]⟩/\e=⟨0,0⟩:=par_ok ok_scan ok_prg q
theorem par_min{n:Int}{k:Nat}{s:List UInt8}{p:PrgT}{e:ErrT}(h:0<=n/\n<9223372036854775808)(z:k<=5)(hs:s=iA k)(q:ParR (hdS++s++dl n++[59,32,125]) p e):p=⟨[],[mkF ⟨[102]⟩ [] [] [] (negI k 1 n)]⟩/\e=⟨0,0⟩:=by rw[hs,a0p,a0p]at q;exact par_neg h z q
theorem text_le{n:Int}(h:0<=n/\n<9223372036854775808):(dl n).length<=19:=(ca.1 (num_neg h).1).2.1
end Go.Proofs.Ytapgbjedgcpffaa.np
