/-
Plain laws: what the functions compute answers as the statement says. No condition beyond those that each statement names.
-/
import Derived.Test.YtapgbjedgcpffaaGreatZRSB
noncomputable section
namespace Go.Proofs.YtapgbjedgcpffaaGreat.rc
open Go.R w1 w3 l1 pt pa pb pc pd pe pf pg ph pi_ qa qb qc qp qd qe qr qf qg ra rb
set_option linter.unusedVariables false
set_option linter.unusedSimpArgs false
theorem cn{α:Type}{x y:α}{i j:Nat}(h:(.ok (x,i):Rs α)= .ok (y,j)):x=y:=by injection h with h;injection h
theorem few_n{k n op:Int}{E:Str}{l:List ExpT}(h:l.length<=3)(q: ∀x∈l,Few x):Few (mkE k n E op l):= .mk h q
theorem few0{k n op:Int}{E:Str}:Few (mkE k n E op []):=few_n e_ (fun x h=>(by cases h))
theorem few1{k n op:Int}{E:Str}{a:ExpT}(h:Few a):Few (mkE k n E op [a]):=few_n (by show 1<=3;decide) (fun x q=>(by rw[a0v.1 q];exact h))
theorem few2{k n op:Int}{E:Str}{a b:ExpT}(h:Few a)(g:Few b):Few (mkE k n E op [a,b]):=few_n (by show 2<=3;decide) (fun x q=>(by
 rcases a0m.1 q with rfl|q
 ·exact h
 rw[a0v.1 q];exact g))
theorem few3{k n op:Int}{E:Str}{a b c:ExpT}(h:Few a)(g:Few b)(f:Few c):Few (mkE k n E op [a,b,c]):=few_n (by show 3<=3;decide) (fun x q=>(by
 rcases a0m.1 q with rfl|q
 ·exact h
 rcases a0m.1 q with rfl|q
 ·exact g
 rw[a0v.1 q];exact f))
theorem few_num{n:Int}:Few (numE n):=few0
theorem few_B{ts:List Token}{i:Nat}{a b:ExpT}(h:Few a)(g:Few b):Few (mkB ts i a b):=by
 unfold mkB;split
 ·exact few2 g h
 exact few2 h g
theorem few(ts:List Token): ∀n,(∀i x j,cH ts n i= .ok (x,j)->Few x)/\(∀k i x j,nO ts n k i= .ok (x,j)->Few x)/\(∀k a i x j,Few a->gY ts n k a i= .ok (x,j)->Few x)/\(∀i x j,kA ts n i= .ok (x,j)->Few x)/\(∀i x j,priM ts n i= .ok (x,j)->Few x)
 |0=>⟨fun _ _ _ h=>(by rw[cH.eq_1]at h;cases h),fun _ _ _ _ h=>(by rw[nO.eq_1]at h;cases h),fun _ _ _ _ _ _ h=>(by rw[gY.eq_1]at h;cases h),fun _ _ _ h=>(by rw[kA.eq_1]at h;cases h),fun _ _ _ h=>(by rw[priM.eq_1]at h;cases h)⟩
 |n+1=>by
  obtain⟨e,b,l,u,p⟩:=few ts n;refine⟨fun i x j h=>?_,fun k i x j h=>?_,fun k a i x j ha h=>?_,fun i x j h=>?_,fun i x j h=>?_⟩
  ·rw[cH.eq_2]at h;obtain⟨c,T,O,E⟩:=aE h;have q1:=b _ _ _ _ O;split at E
   ·obtain⟨a,i2,Y,U⟩:=aE E;obtain⟨_,i3,h5,Z⟩:=aE U;obtain⟨d,i4,h7,h8⟩:=aE Z;rw[←cn h8];exact few3 q1 (e _ _ _ Y) (e _ _ _ h7)
   rw[←cn E];exact q1
  ·rw[nO.eq_2]at h;split at h
   ·exact u _ _ _ h
   obtain⟨a,T,O,E⟩:=aE h;exact l _ _ _ _ _ (b _ _ _ _ O) E
  ·rw[gY.eq_2]at h;split at h
   ·rw[←cn h];exact ha
   obtain⟨c,T,O,E⟩:=aE h;exact l _ _ _ _ _ (few_B ha (b _ _ _ _ O)) E
  ·rw[kA.eq_2]at h;split at h
   ·split at h
    ·rw[←cn h];exact few_num
    obtain⟨c,T,O,E⟩:=aE h;rw[←cn E];exact few1 (u _ _ _ O)
   split at h
   ·obtain⟨c,T,O,E⟩:=aE h;rw[←cn E];exact few1 (u _ _ _ O)
   split at h
   ·obtain⟨c,T,O,E⟩:=aE h;rw[←cn E];exact few2 (u _ _ _ O) few_num
   split at h
   ·obtain⟨c,T,O,E⟩:=aE h;obtain⟨_,i2,Y,U⟩:=aE E;rw[←cn U];exact e _ _ _ O
   exact p _ _ _ h
  rw[priM.eq_2]at h;split at h
  ·split at h
   ·rw[←cn h];exact few_num
   cases h
  obtain⟨c,T,O,E⟩:=aE h;split at E
  ·obtain⟨d,i2,Y,U⟩:=aE E;obtain⟨_,i3,h5,Z⟩:=aE U;rw[←cn Z];exact few1 (e _ _ _ Y)
  rw[←cn E];exact few0
theorem keyM_ok{ts:List Token}{w:List UInt8}{i j:Nat}{u:Unit}(h:keyM ts w i= .ok (u,j)):j=i+1:=by
 unfold keyM at h;split at h
 ·injection h with h;injection h with _ h;exact h.symm
 cases h
theorem jd{ts:List Token}{i j:Nat}{u:Int}(h:d9 ts i= .ok (u,j)):j=i+1:=by
 unfold d9 at h;split at h
 ·injection h with h;injection h with _ h;exact h.symm
 cases h
theorem argL_ok(ts:List Token): ∀n l i x j,(∀e∈l,Few e)->argL ts n l i= .ok (x,j)->i<j/\x.length+i<=l.length+j/\∀e∈x,Few e
 |0,l,i,x,j,_,h=>by rw[argL.eq_1]at h;cases h
 |n+1,l,i,x,j,hl,h=>by
  rw[argL.eq_2]at h;split at h
  ·obtain⟨b,T,E,O⟩:=aE h;have Y:=(adv ts n).1 _ _ _ E;obtain⟨k1,k2,U⟩:=argL_ok ts n _ _ _ _ (fun e he=>(by
    rcases a0e.1 he with q|q
    ·exact hl e q
    rw[a0v.1 q];exact(few ts n).1 _ _ _ E)) O
   rw[a00,List.length_singleton]at k2;exact⟨by omega,by omega,U⟩
  obtain⟨_,T,E,O⟩:=aE h;have Y:=ce E;have Z:=bu O;rw[←cn O];exact⟨by omega,by omega,hl⟩
theorem argM_ok{ts:List Token}{n i j:Nat}{x:List ExpT}(h:argM ts n i= .ok (x,j)):i<j/\x.length+i<=j/\∀e∈x,Few e:=by
 unfold argM at h;obtain⟨_,Z,T,E⟩:=aE h;have q1:=ce T;split at E
 ·have q2:=bu E;rw[←cn E];exact⟨by omega,by show 0+i<=j;omega,fun e he=>(by cases he)⟩
 obtain⟨a,i2,O,U⟩:=aE E;have q3:=(adv ts n).1 _ _ _ O;obtain⟨k1,k2,Y⟩:=argL_ok ts n _ _ _ _ (fun e he=>(by rw[a0v.1 he];exact(few ts n).1 _ _ _ O)) U;rw[List.length_singleton]at k2;exact⟨by omega,by omega,Y⟩
theorem kW{ts:List Token}{n i j:Nat}{x:ExpT}(h:condM ts n i= .ok (x,j)):i<j/\Few x:=by unfold condM at h;obtain⟨_,i1,T,U⟩:=aE h;obtain⟨a,i2,E,Y⟩:=aE U;obtain⟨_,i3,Z,O⟩:=aE Y;have q1:=ce T;have q2:=(adv ts n).1 _ _ _ E;have q3:=ce Z;have q4:=bu O;rw[←cn O];exact⟨by omega,(few ts n).1 _ _ _ E⟩
def FewS(s:StmT):Prop:=Few s.at_/\Few s.val/\s.args.length<=1000000/\(∀e∈s.args,Few e)/\FewL s.thn/\FewL s.els
theorem fewL_of{l:List StmT}(h:l.length<=1000000)(k: ∀x∈l,FewS x):FewL l:=
 .mk h (fun x q=>(k x q).1) (fun x q=>(k x q).2.1) (fun x q=>(k x q).2.2.1) (fun x q=>(k x q).2.2.2.1) (fun x q=>(k x q).2.2.2.2.1) (fun x q=>(k x q).2.2.2.2.2)
theorem iq:FewL []:=fewL_of e_ (fun x h=>(by cases h))
theorem nE:Few zE:=few0
theorem fewS{k n:Int}{a b:Str}{x y:ExpT}{l:List ExpT}{t e:List StmT}(E:Few x)(O:Few y)(T:l.length<=1000000)(U: ∀z∈l,Few z)(Y:FewL t)(Z:FewL e):FewS (mkS k a b n x y l t e):=⟨E,O,T,U,Y,Z⟩
theorem fewS0{k n:Int}{a b:Str}{x y:ExpT}(E:Few x)(O:Few y):FewS (mkS k a b n x y [] [] []):=fewS E O e_ (fun z q=>(by cases q)) iq iq
theorem simM_ok{ts:List Token}{n i j:Nat}{x:StmT}(h:simM ts n i= .ok (x,j))(hj:j<=1000000):i<j/\FewS x:=by
 unfold simM at h;split at h
 ·obtain⟨a,i1,O,E⟩:=aE h;have q1:=(adv ts n).1 _ _ _ O;have q2:=bu E;rw[←cn E];exact⟨by omega,fewS0 nE ((few ts n).1 _ _ _ O)⟩
 split at h
 ·obtain⟨a,i1,O,E⟩:=aE h;have q1:=jd O;have q2:=bu E;rw[←cn E];exact⟨by omega,fewS0 nE nE⟩
 obtain⟨s,i1,O,E⟩:=aE h;have q1:=ej O;split at E
 ·obtain⟨a,i2,Z,Y⟩:=aE E;obtain⟨_,i3,T,U⟩:=aE Y;obtain⟨_,i4,h7,h8⟩:=aE U;obtain⟨v,i5,h9,an⟩:=aE h8;have q2:=(adv ts n).1 _ _ _ Z;have q3:=ce T;have q4:=ce h7;have q5:=(adv ts n).1 _ _ _ h9;have q6:=bu an;rw[←cn an];exact⟨by omega,fewS0 ((few ts n).1 _ _ _ Z) ((few ts n).1 _ _ _ h9)⟩
 obtain⟨_,i2,Z,Y⟩:=aE E;have q2:=ce Z;split at Y
 ·obtain⟨f,i3,T,U⟩:=aE Y;obtain⟨l,i4,h7,h8⟩:=aE U;have q3:=ej T;obtain⟨q4,q5,q6⟩:=argM_ok h7;have q7:=bu h8;rw[←cn h8];exact⟨by omega,fewS nE nE M q6 iq iq⟩
 obtain⟨v,i3,T,U⟩:=aE Y;have q3:=(adv ts n).1 _ _ _ T;have q4:=bu U;rw[←cn U];exact⟨by omega,fewS0 nE ((few ts n).1 _ _ _ T)⟩
theorem simM_adv{ts:List Token}{n i j:Nat}{x:StmT}(h:simM ts n i= .ok (x,j)):i<j:=by
 unfold simM at h;split at h
 ·obtain⟨a,i1,O,E⟩:=aE h;have q1:=(adv ts n).1 _ _ _ O;have q2:=bu E;omega
 split at h
 ·obtain⟨a,i1,O,E⟩:=aE h;have q1:=jd O;have q2:=bu E;omega
 obtain⟨s,i1,O,E⟩:=aE h;have q1:=ej O;split at E
 ·obtain⟨a,i2,Z,T⟩:=aE E;obtain⟨_,i3,U,Y⟩:=aE T;obtain⟨_,i4,h7,h8⟩:=aE Y;obtain⟨v,i5,h9,a0⟩:=aE h8;have q2:=(adv ts n).1 _ _ _ Z;have q3:=ce U;have q4:=ce h7;have q5:=(adv ts n).1 _ _ _ h9;have q6:=bu a0;omega
 obtain⟨_,i2,Z,T⟩:=aE E;have q2:=ce Z;split at T
 ·obtain⟨f,i3,U,Y⟩:=aE T;obtain⟨l,i4,h7,h8⟩:=aE Y;have q3:=ej U;have q4:=(argM_ok h7).1;have q7:=bu h8;omega
 obtain⟨v,i3,U,Y⟩:=aE T;have q3:=(adv ts n).1 _ _ _ U;have q4:=bu Y;omega
theorem sadv(ts:List Token): ∀n,(∀i x j,kL ts n i= .ok (x,j)->i<j)/\(∀i x j,blkM ts n i= .ok (x,j)->i<j)/\(∀l i x j,stsM ts n l i= .ok (x,j)->i<j)
 |0=>⟨fun _ _ _ h=>(by rw[kL.eq_1]at h;cases h),fun _ _ _ h=>(by rw[blkM.eq_1]at h;cases h),fun _ _ _ _ h=>(by rw[stsM.eq_1]at h;cases h)⟩
 |n+1=>by
  obtain⟨s,b,l⟩:=sadv ts n;refine⟨fun i x j h=>?_,fun i x j h=>?_,fun k i x j h=>?_⟩
  ·rw[kL.eq_2]at h;split at h
   ·obtain⟨c,Y,E,O⟩:=aE h;obtain⟨t,i2,U,T⟩:=aE O;have Z:=(kW E).1;have q2:=b _ _ _ U;split at T
    ·obtain⟨e,i3,h5,h6⟩:=aE T;have q3:=b _ _ _ h5;have q4:=bu h6;omega
    have q4:=bu T;omega
   split at h
   ·obtain⟨c,Y,E,O⟩:=aE h;obtain⟨t,i2,U,T⟩:=aE O;have Z:=(kW E).1;have q2:=b _ _ _ U;have q4:=bu T;omega
   obtain⟨c,Y,E,O⟩:=aE h;obtain⟨_,i2,U,T⟩:=aE O;have Z:=simM_adv E;have q2:=ce U;have q4:=bu T;omega
  ·rw[blkM.eq_2]at h;obtain⟨_,Y,E,O⟩:=aE h;have Z:=ce E;have q2:=l _ _ _ _ O;omega
  rw[stsM.eq_2]at h;split at h
  ·have q:=bu h;omega
  obtain⟨c,Y,E,O⟩:=aE h;have Z:=s _ _ _ E;have q2:=l _ _ _ _ O;omega
theorem sfew(ts:List Token): ∀n,(∀i x j,j<=1000000->kL ts n i= .ok (x,j)->FewS x)/\(∀i x j,j<=1000000->blkM ts n i= .ok (x,j)->FewL x)/\(∀l i x j,j<=1000000->l.length<=i->(∀s∈l,FewS s)->stsM ts n l i= .ok (x,j)->FewL x)
 |0=>⟨fun _ _ _ _ h=>(by rw[kL.eq_1]at h;cases h),fun _ _ _ _ h=>(by rw[blkM.eq_1]at h;cases h),fun _ _ _ _ _ _ _ h=>(by rw[stsM.eq_1]at h;cases h)⟩
 |n+1=>by
  obtain⟨s,b,l⟩:=sfew ts n;obtain⟨sa,ba,la⟩:=sadv ts n;refine⟨fun i x j hj h=>?_,fun i x j hj h=>?_,fun k i x j hj hk hl h=>?_⟩
  ·rw[kL.eq_2]at h;split at h
   ·obtain⟨c,Z,T,E⟩:=aE h;obtain⟨t,i2,U,O⟩:=aE E;have Y:=kW T;split at O
    ·obtain⟨e,i3,h5,h6⟩:=aE O;have q3:=ba _ _ _ h5;have q4:=bu h6;rw[←cn h6];exact fewS nE Y.2 e_ (fun z q=>(by cases q)) (b _ _ _ M U) (b _ _ _ M h5)
    have q4:=bu O;rw[←cn O];exact fewS nE Y.2 e_ (fun z q=>(by cases q)) (b _ _ _ M U) iq
   split at h
   ·obtain⟨c,Z,T,E⟩:=aE h;obtain⟨t,i2,U,O⟩:=aE E;have Y:=kW T;have q4:=bu O;rw[←cn O];exact fewS nE Y.2 e_ (fun z q=>(by cases q)) (b _ _ _ M U) iq
   obtain⟨c,Z,T,E⟩:=aE h;obtain⟨_,i2,U,O⟩:=aE E;have q2:=ce U;have q4:=bu O;rw[←cn O];exact(simM_ok T M).2
  ·rw[blkM.eq_2]at h;obtain⟨_,Z,T,E⟩:=aE h;exact l _ _ _ _ hj (a0l _) (fun s q=>(by cases q)) E
  rw[stsM.eq_2]at h;split at h
  ·have q:=bu h;rw[←cn h];exact fewL_of M hl
  obtain⟨c,Z,T,E⟩:=aE h;have Y:=sa _ _ _ T;have q2:=la _ _ _ _ E;refine l _ _ _ _ hj l_ (fun z q=>?_) E;rcases a0e.1 q with q|q
  ·exact hl z q
  rw[a0v.1 q];exact s _ _ _ M T
theorem namL_ok(ts:List Token): ∀n l i x j,namL ts n l i= .ok (x,j)->i<=j/\x.length+i<=l.length+j
 |0,l,i,x,j,h=>by rw[namL.eq_1]at h;cases h
 |n+1,l,i,x,j,h=>by
  rw[namL.eq_2]at h;split at h
  ·obtain⟨b,U,E,O⟩:=aE h;have Y:=ej E;have T:=namL_ok ts n _ _ _ _ O;rw[a00,List.length_singleton]at T;exact⟨by omega,by omega⟩
  have q:=bu h;rw[←cn h];exact⟨by omega,by omega⟩
theorem namM_ok{ts:List Token}{n i j:Nat}{x:List Str}(h:namM ts n i= .ok (x,j)):i<j/\x.length+i<=j:=by unfold namM at h;obtain⟨a,U,E,O⟩:=aE h;have Y:=ej E;have T:=namL_ok ts n _ _ _ _ O;rw[List.length_singleton]at T;exact⟨by omega,by omega⟩
theorem badv(ts:List Token): ∀n l i x j,iy ts n l i= .ok (x,j)->i<j
 |0,l,i,x,j,h=>by rw[iy.eq_1]at h;cases h
 |n+1,l,i,x,j,h=>by
  rw[iy.eq_2]at h;split at h
  ·have q:=bu h;omega
  obtain⟨b,T,E,O⟩:=aE h;have U:=(sadv ts n).1 _ _ _ E;have Y:=badv ts n _ _ _ _ O;omega
theorem bfew(ts:List Token): ∀n l i x j,j<=1000000->l.length<=i->(∀s∈l,FewS s)->iy ts n l i= .ok (x,j)->FewL x
 |0,l,i,x,j,_,_,_,h=>by rw[iy.eq_1]at h;cases h
 |n+1,l,i,x,j,hj,hk,hl,h=>by
  rw[iy.eq_2]at h;split at h
  ·have q:=bu h;rw[←cn h];exact fewL_of M hl
  obtain⟨b,T,E,O⟩:=aE h;have U:=(sadv ts n).1 _ _ _ E;have Y:=badv ts n _ _ _ _ O;refine bfew ts n _ _ _ _ hj l_ (fun z q=>?_) O;rcases a0e.1 q with q|q
  ·exact hl z q
  rw[a0v.1 q];exact(sfew ts n).1 _ _ _ M E
def FewF(f:FunT):Prop:=f.pars.length<=1000000/\f.locs.length<=1000000/\FewL f.body/\Few f.val
theorem funM_adv{ts:List Token}{n i j:Nat}{x:FunT}(h:funM ts n i= .ok (x,j)):i<j/\(j<=1000000->FewF x):=by
 unfold funM at h;obtain⟨s,i1,h1,h⟩:=aE h;obtain⟨_,T,h2,h⟩:=aE h;obtain⟨p,U,E,h⟩:=aE h;obtain⟨_,Y,h4,h⟩:=aE h;obtain⟨l,Z,O,h⟩:=aE h;obtain⟨_,i6,h6,h⟩:=aE h;obtain⟨b,i7,h7,h⟩:=aE h;obtain⟨v,i8,h8,h⟩:=aE h;obtain⟨_,i9,h9,h⟩:=aE h;obtain⟨_,a5,al,h⟩:=aE h;have q1:=ej h1;have q2:=ce h2;have q3:T<=U/\p.length+T<=U:=by
  split at E
  ·have e:=bu E;rw[←cn E];exact⟨by omega,by show 0+T<=U;omega⟩
  have e:=namM_ok E;exact⟨by omega,e.2⟩
 have q4:=ce h4;have q5:Y<=Z/\l.length+Y<=Z:=by
  split at O
  ·have e:=namM_ok O;exact⟨by omega,by omega⟩
  have e:=bu O;rw[←cn O];exact⟨by omega,by show 0+Y<=Z;omega⟩
 have q6:=ce h6;have q7:=badv ts n _ _ _ _ h7;have q8:=(adv ts n).1 _ _ _ h8;have q9:=ce h9;have a6:=ce al;have a7:=bu h;rw[←cn h];exact⟨by omega,fun hj=>⟨by show p.length<=_;omega,by show l.length<=_;omega,bfew ts n _ _ _ _ M (a0l _) (fun z q=>(by cases q)) h7,(few ts n).1 _ _ _ h8⟩⟩
theorem padv(ts:List Token): ∀n a f i x j,jB ts n a f i= .ok (x,j)->i<=j
 |0,a,f,i,x,j,h=>by rw[jB.eq_1]at h;cases h
 |n+1,a,f,i,x,j,h=>by
  rw[jB.eq_2]at h;split at h
  ·have q:=bu h;omega
  split at h
  ·obtain⟨s,U,E,h⟩:=aE h;obtain⟨k,Y,O,h⟩:=aE h;obtain⟨_,i3,T,h⟩:=aE h;have Z:=ej E;have q2:=jd O;have q3:=ce T;have q4:=padv ts n _ _ _ _ _ h;omega
  obtain⟨_,U,E,h⟩:=aE h;obtain⟨g,Y,O,h⟩:=aE h;have Z:=keyM_ok E;have q2:=(funM_adv O).1;have q4:=padv ts n _ _ _ _ _ h;omega
theorem pfew(ts:List Token): ∀n a f i x j,j<=1000000->a.length<=i->f.length<=i->(∀g∈f,FewF g)->jB ts n a f i= .ok (x,j)->x.1.length<=1000000/\x.2.length<=1000000/\∀g∈x.2,FewF g
 |0,a,f,i,x,j,_,_,_,_,h=>by rw[jB.eq_1]at h;cases h
 |n+1,a,f,i,x,j,hj,ha,hf,hg,h=>by
  rw[jB.eq_2]at h;split at h
  ·have q:=bu h;rw[←cn h];exact⟨by show a.length<=_;omega,by show f.length<=_;omega,hg⟩
  split at h
  ·obtain⟨s,Y,E,h⟩:=aE h;obtain⟨k,Z,O,h⟩:=aE h;obtain⟨_,i3,U,h⟩:=aE h;have q1:=ej E;have T:=jd O;have q3:=ce U;exact pfew ts n _ _ _ _ _ hj l_ M hg h
  obtain⟨_,Y,E,h⟩:=aE h;obtain⟨g,Z,O,h⟩:=aE h;have q1:=keyM_ok E;have T:=funM_adv O;have q4:=padv ts n _ _ _ _ _ h;refine pfew ts n _ _ _ _ _ hj M l_ (fun z q=>?_) h;rcases a0e.1 q with q|q
  ·exact hg z q
  rw[a0v.1 q];exact T.2 M
theorem fewP_nil:FewP ⟨[],[]⟩:=⟨by decide,by decide,fun i h=>absurd h (Nat.not_lt_zero _)⟩
theorem par_few{s:List UInt8}{p:PrgT}{e:ErrT}(h:ParR s p e)(hl:s.length<=1000000):FewP p:=by
 unfold ParR at h;split at h
 ·obtain⟨x,i,b,E,hi,O,Z⟩:=h;cases b with
  |true=>rw[O];exact fewP_nil
  |false=>
   rcases E with⟨_,j,hj,n0,hn⟩|⟨E,_⟩
   ·have hs:=(bA s).1;obtain⟨T,U,Y⟩:=pfew (aL s).1 n0 [] [] 0 x j M (a07 _) (a07 _) (fun g hg=>by cases hg) (hn n0 (a07 _));rw[O];refine⟨T,U,fun k hk=>Y _ ?_⟩;show x.2.getD k default∈x.2;rw[a08,a09 (show k<x.2.length from hk)];exact a0E hk
   cases E
 rw[h.1];exact fewP_nil
end Go.Proofs.YtapgbjedgcpffaaGreat.rc
