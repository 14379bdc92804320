/-
Plain laws: what the functions compute answers as the statement says. No condition beyond those that each statement names.
-/
import Derived.Test.YtapgbjedgcpffaaZXSB
noncomputable section
namespace Go.Proofs.Ytapgbjedgcpffaa.rc
open Go.R w1 w3 l1 pt pa pb pc pd pe pf pg ph pi_ qa qb qc qp qd qe qr qf qg ra rb
set_option linter.unusedVariables false
set_option linter.unusedSimpArgs false
theorem bG{α:Type}{x y:α}{i j:Nat}(h:(.ok (x,i):Rs α)= .ok (y,j)):x=y:=by injection h with h;injection h
theorem few_n{k n op:Int}{z:Str}{l:List ExpT}(h:l.length<=3)(q: ∀x∈l,Few x):Few (mkE k n z op l):= .mk h q
theorem few0{k n op:Int}{z:Str}:Few (mkE k n z op []):=few_n (by decide) (fun x h=>(by cases h))
theorem few1{k n op:Int}{z:Str}{a:ExpT}(h:Few a):Few (mkE k n z op [a]):=few_n (by show 1<=3;decide) (fun x q=>(by rw[a0B.1 q];exact h))
theorem few2{k n op:Int}{z:Str}{a b:ExpT}(h:Few a)(g:Few b):Few (mkE k n z op [a,b]):=few_n (by show 2<=3;decide) (fun x q=>(by
 rcases a0g.1 q with rfl|q
 ·exact h
 rw[a0B.1 q];exact g))
theorem few3{k n op:Int}{z:Str}{a b c:ExpT}(h:Few a)(g:Few b)(f:Few c):Few (mkE k n z op [a,b,c]):=few_n (by show 3<=3;decide) (fun x q=>(by
 rcases a0g.1 q with rfl|q
 ·exact h
 rcases a0g.1 q with rfl|q
 ·exact g
 rw[a0B.1 q];exact f))
theorem few_num{n:Int}:Few (numE n):=few0
theorem few_B{ts:List Token}{i:Nat}{a b:ExpT}(h:Few a)(g:Few b):Few (mkB ts i a b):=by
 unfold mkB;split
 ·exact few2 g h
 exact few2 h g
theorem few(ts:List Token): ∀n,(∀i x j,bN ts n i= .ok (x,j)->Few x)/\(∀k i x j,kF ts n k i= .ok (x,j)->Few x)/\(∀k a i x j,Few a->eY ts n k a i= .ok (x,j)->Few x)/\(∀i x j,hU ts n i= .ok (x,j)->Few x)/\(∀i x j,priM ts n i= .ok (x,j)->Few x)
 |0=>⟨fun _ _ _ h=>(by rw[bN.eq_1]at h;cases h),fun _ _ _ _ h=>(by rw[kF.eq_1]at h;cases h),fun _ _ _ _ _ _ h=>(by rw[eY.eq_1]at h;cases h),fun _ _ _ h=>(by rw[hU.eq_1]at h;cases h),fun _ _ _ h=>(by rw[priM.eq_1]at h;cases h)⟩
 |n+1=>by
  obtain⟨e,b,l,u,p⟩:=few ts n;refine⟨fun i x j h=>?_,fun k i x j h=>?_,fun k a i x j ha h=>?_,fun i x j h=>?_,fun i x j h=>?_⟩
  ·rw[bN.eq_2]at h;obtain⟨c,E,A,z⟩:=aB h;have Y:=b _ _ _ _ A;split at z
   ·obtain⟨a,V,T,O⟩:=aB z;obtain⟨_,i3,Z,U⟩:=aB O;obtain⟨d,i4,h7,h8⟩:=aB U;rw[←bG h8];exact few3 Y (e _ _ _ T) (e _ _ _ h7)
   rw[←bG z];exact Y
  ·rw[kF.eq_2]at h;split at h
   ·exact u _ _ _ h
   obtain⟨a,E,A,z⟩:=aB h;exact l _ _ _ _ _ (b _ _ _ _ A) z
  ·rw[eY.eq_2]at h;split at h
   ·rw[←bG h];exact ha
   obtain⟨c,E,A,z⟩:=aB h;exact l _ _ _ _ _ (few_B ha (b _ _ _ _ A)) z
  ·rw[hU.eq_2]at h;split at h
   ·split at h
    ·rw[←bG h];exact few_num
    obtain⟨c,E,A,z⟩:=aB h;rw[←bG z];exact few1 (u _ _ _ A)
   split at h
   ·obtain⟨c,E,A,z⟩:=aB h;rw[←bG z];exact few1 (u _ _ _ A)
   split at h
   ·obtain⟨c,E,A,z⟩:=aB h;rw[←bG z];exact few2 (u _ _ _ A) few_num
   split at h
   ·obtain⟨c,E,A,z⟩:=aB h;obtain⟨_,V,T,O⟩:=aB z;rw[←bG O];exact e _ _ _ A
   exact p _ _ _ h
  rw[priM.eq_2]at h;split at h
  ·split at h
   ·rw[←bG h];exact few_num
   cases h
  obtain⟨c,E,A,z⟩:=aB h;split at z
  ·obtain⟨d,V,T,O⟩:=aB z;obtain⟨_,i3,Z,U⟩:=aB O;rw[←bG U];exact few1 (e _ _ _ T)
  rw[←bG z];exact few0
theorem keyM_ok{ts:List Token}{w:List UInt8}{i j:Nat}{u:Unit}(h:keyM ts w i= .ok (u,j)):j=i+1:=by
 unfold keyM at h;split at h
 ·injection h with h;injection h with _ h;exact h.symm
 cases h
theorem gh{ts:List Token}{i j:Nat}{u:Int}(h:dh ts i= .ok (u,j)):j=i+1:=by
 unfold dh at h;split at h
 ·injection h with h;injection h with _ h;exact h.symm
 cases h
theorem argL_ok(ts:List Token): ∀n l i x j,(∀e∈l,Few e)->argL ts n l i= .ok (x,j)->i<j/\x.length+i<=l.length+j/\∀e∈x,Few e
 |0,l,i,x,j,_,h=>by rw[argL.eq_1]at h;cases h
 |n+1,l,i,x,j,hl,h=>by
  rw[argL.eq_2]at h;split at h
  ·obtain⟨b,E,z,A⟩:=aB h;have T:=(adv ts n).1 _ _ _ z;obtain⟨k1,k2,O⟩:=argL_ok ts n _ _ _ _ (fun e V=>(by
    rcases a0b.1 V with q|q
    ·exact hl e q
    rw[a0B.1 q];exact(few ts n).1 _ _ _ z)) A
   rw[a01,List.length_singleton]at k2;exact⟨by omega,by omega,O⟩
  obtain⟨_,E,z,A⟩:=aB h;have T:=bD z;have U:=bc A;rw[←bG A];exact⟨by omega,by omega,hl⟩
theorem argM_ok{ts:List Token}{n i j:Nat}{x:List ExpT}(h:argM ts n i= .ok (x,j)):i<j/\x.length+i<=j/\∀e∈x,Few e:=by
 unfold argM at h;obtain⟨_,U,E,z⟩:=aB h;have Y:=bD E;split at z
 ·have Z:=bc z;rw[←bG z];exact⟨by omega,by show 0+i<=j;omega,fun e he=>(by cases he)⟩
 obtain⟨a,V,A,O⟩:=aB z;have q3:=(adv ts n).1 _ _ _ A;obtain⟨k1,k2,T⟩:=argL_ok ts n _ _ _ _ (fun e he=>(by rw[a0B.1 he];exact(few ts n).1 _ _ _ A)) O;rw[List.length_singleton]at k2;exact⟨by omega,by omega,T⟩
theorem iy{ts:List Token}{n i j:Nat}{x:ExpT}(h:condM ts n i= .ok (x,j)):i<j/\Few x:=by unfold condM at h;obtain⟨_,V,E,O⟩:=aB h;obtain⟨a,Y,z,T⟩:=aB O;obtain⟨_,Z,U,A⟩:=aB T;have q1:=bD E;have q2:=(adv ts n).1 _ _ _ z;have q3:=bD U;have q4:=bc A;rw[←bG A];exact⟨by omega,(few ts n).1 _ _ _ z⟩
def FewS(s:StmT):Prop:=Few s.at_/\Few s.val/\s.args.length<=1000000/\(∀e∈s.args,Few e)/\FewL s.thn/\FewL s.els
theorem fewL_of{l:List StmT}(h:l.length<=1000000)(k: ∀x∈l,FewS x):FewL l:=
 .mk h (fun x q=>(k x q).1) (fun x q=>(k x q).2.1) (fun x q=>(k x q).2.2.1) (fun x q=>(k x q).2.2.2.1) (fun x q=>(k x q).2.2.2.2.1) (fun x q=>(k x q).2.2.2.2.2)
theorem fq:FewL []:=fewL_of (by decide) (fun x h=>(by cases h))
theorem kr:Few zE:=few0
theorem fewS{k n:Int}{a b:Str}{x y:ExpT}{l:List ExpT}{t e:List StmT}(A:Few x)(E:Few y)(O:l.length<=1000000)(T: ∀z∈l,Few z)(U:FewL t)(V:FewL e):FewS (mkS k a b n x y l t e):=⟨A,E,O,T,U,V⟩
theorem fewS0{k n:Int}{a b:Str}{x y:ExpT}(A:Few x)(E:Few y):FewS (mkS k a b n x y [] [] []):=fewS A E (by decide) (fun z q=>(by cases q)) fq fq
theorem simM_ok{ts:List Token}{n i j:Nat}{x:StmT}(h:simM ts n i= .ok (x,j))(hj:j<=1000000):i<j/\FewS x:=by
 unfold simM at h;split at h
 ·obtain⟨a,i1,A,z⟩:=aB h;have q1:=(adv ts n).1 _ _ _ A;have q2:=bc z;rw[←bG z];exact⟨by omega,fewS0 kr ((few ts n).1 _ _ _ A)⟩
 split at h
 ·obtain⟨a,i1,A,z⟩:=aB h;have q1:=gh A;have q2:=bc z;rw[←bG z];exact⟨by omega,fewS0 kr kr⟩
 obtain⟨s,i1,A,z⟩:=aB h;have q1:=dw A;split at z
 ·obtain⟨a,i2,U,T⟩:=aB z;obtain⟨_,i3,E,O⟩:=aB T;obtain⟨_,i4,Z,V⟩:=aB O;obtain⟨v,i5,h9,Y⟩:=aB V;have q2:=(adv ts n).1 _ _ _ U;have q3:=bD E;have q4:=bD Z;have q5:=(adv ts n).1 _ _ _ h9;have q6:=bc Y;rw[←bG Y];exact⟨by omega,fewS0 ((few ts n).1 _ _ _ U) ((few ts n).1 _ _ _ h9)⟩
 obtain⟨_,i2,U,T⟩:=aB z;have q2:=bD U;split at T
 ·obtain⟨f,i3,E,O⟩:=aB T;obtain⟨l,i4,Z,V⟩:=aB O;have q3:=dw E;obtain⟨q4,q5,q6⟩:=argM_ok Z;have q7:=bc V;rw[←bG V];exact⟨by omega,fewS kr kr (by omega) q6 fq fq⟩
 obtain⟨v,i3,E,O⟩:=aB T;have q3:=(adv ts n).1 _ _ _ E;have q4:=bc O;rw[←bG O];exact⟨by omega,fewS0 kr ((few ts n).1 _ _ _ E)⟩
theorem simM_adv{ts:List Token}{n i j:Nat}{x:StmT}(h:simM ts n i= .ok (x,j)):i<j:=by
 unfold simM at h;split at h
 ·obtain⟨a,i1,A,z⟩:=aB h;have q1:=(adv ts n).1 _ _ _ A;have Z:=bc z;omega
 split at h
 ·obtain⟨a,i1,A,z⟩:=aB h;have q1:=gh A;have Z:=bc z;omega
 obtain⟨s,i1,A,z⟩:=aB h;have q1:=dw A;split at z
 ·obtain⟨a,i2,U,E⟩:=aB z;obtain⟨_,i3,O,T⟩:=aB E;obtain⟨_,i4,V,Y⟩:=aB T;obtain⟨v,i5,h9,al⟩:=aB Y;have Z:=(adv ts n).1 _ _ _ U;have q3:=bD O;have q4:=bD V;have q5:=(adv ts n).1 _ _ _ h9;have q6:=bc al;omega
 obtain⟨_,i2,U,E⟩:=aB z;have Z:=bD U;split at E
 ·obtain⟨f,i3,O,T⟩:=aB E;obtain⟨l,i4,V,Y⟩:=aB T;have q3:=dw O;have q4:=(argM_ok V).1;have q7:=bc Y;omega
 obtain⟨v,i3,O,T⟩:=aB E;have q3:=(adv ts n).1 _ _ _ O;have q4:=bc T;omega
theorem sadv(ts:List Token): ∀n,(∀i x j,ii ts n i= .ok (x,j)->i<j)/\(∀i x j,blkM ts n i= .ok (x,j)->i<j)/\(∀l i x j,stsM ts n l i= .ok (x,j)->i<j)
 |0=>⟨fun _ _ _ h=>(by rw[ii.eq_1]at h;cases h),fun _ _ _ h=>(by rw[blkM.eq_1]at h;cases h),fun _ _ _ _ h=>(by rw[stsM.eq_1]at h;cases h)⟩
 |n+1=>by
  obtain⟨s,b,l⟩:=sadv ts n;refine⟨fun i x j h=>?_,fun i x j h=>?_,fun k i x j h=>?_⟩
  ·rw[ii.eq_2]at h;split at h
   ·obtain⟨c,T,z,A⟩:=aB h;obtain⟨t,Z,O,E⟩:=aB A;have U:=(iy z).1;have V:=b _ _ _ O;split at E
    ·obtain⟨e,i3,h5,h6⟩:=aB E;have q3:=b _ _ _ h5;have Y:=bc h6;omega
    have Y:=bc E;omega
   split at h
   ·obtain⟨c,T,z,A⟩:=aB h;obtain⟨t,Z,O,E⟩:=aB A;have U:=(iy z).1;have V:=b _ _ _ O;have Y:=bc E;omega
   obtain⟨c,T,z,A⟩:=aB h;obtain⟨_,Z,O,E⟩:=aB A;have U:=simM_adv z;have V:=bD O;have Y:=bc E;omega
  ·rw[blkM.eq_2]at h;obtain⟨_,T,z,A⟩:=aB h;have U:=bD z;have V:=l _ _ _ _ A;omega
  rw[stsM.eq_2]at h;split at h
  ·have q:=bc h;omega
  obtain⟨c,T,z,A⟩:=aB h;have U:=s _ _ _ z;have V:=l _ _ _ _ A;omega
theorem sfew(ts:List Token): ∀n,(∀i x j,j<=1000000->ii ts n i= .ok (x,j)->FewS x)/\(∀i x j,j<=1000000->blkM ts n i= .ok (x,j)->FewL x)/\(∀l i x j,j<=1000000->l.length<=i->(∀s∈l,FewS s)->stsM ts n l i= .ok (x,j)->FewL x)
 |0=>⟨fun _ _ _ _ h=>(by rw[ii.eq_1]at h;cases h),fun _ _ _ _ h=>(by rw[blkM.eq_1]at h;cases h),fun _ _ _ _ _ _ _ h=>(by rw[stsM.eq_1]at h;cases h)⟩
 |n+1=>by
  obtain⟨s,b,l⟩:=sfew ts n;obtain⟨sa,ba,la⟩:=sadv ts n;refine⟨fun i x j hj h=>?_,fun i x j hj h=>?_,fun k i x j hj hk hl h=>?_⟩
  ·rw[ii.eq_2]at h;split at h
   ·obtain⟨c,V,O,A⟩:=aB h;obtain⟨t,i2,T,E⟩:=aB A;have U:=iy O;split at E
    ·obtain⟨e,i3,Z,h6⟩:=aB E;have q3:=ba _ _ _ Z;have Y:=bc h6;rw[←bG h6];exact fewS kr U.2 (by decide) (fun z q=>(by cases q)) (b _ _ _ (by omega) T) (b _ _ _ (by omega) Z)
    have Y:=bc E;rw[←bG E];exact fewS kr U.2 (by decide) (fun z q=>(by cases q)) (b _ _ _ (by omega) T) fq
   split at h
   ·obtain⟨c,V,O,A⟩:=aB h;obtain⟨t,i2,T,E⟩:=aB A;have U:=iy O;have Y:=bc E;rw[←bG E];exact fewS kr U.2 (by decide) (fun z q=>(by cases q)) (b _ _ _ (by omega) T) fq
   obtain⟨c,V,O,A⟩:=aB h;obtain⟨_,i2,T,E⟩:=aB A;have q2:=bD T;have Y:=bc E;rw[←bG E];exact(simM_ok O (by omega)).2
  ·rw[blkM.eq_2]at h;obtain⟨_,V,O,A⟩:=aB h;exact l _ _ _ _ hj (a0t _) (fun s q=>(by cases q)) A
  rw[stsM.eq_2]at h;split at h
  ·have q:=bc h;rw[←bG h];exact fewL_of (by omega) hl
  obtain⟨c,V,O,A⟩:=aB h;have U:=sa _ _ _ O;have q2:=la _ _ _ _ A;refine l _ _ _ _ hj (by rw[a01,List.length_singleton];omega) (fun z q=>?_) A;rcases a0b.1 q with q|q
  ·exact hl z q
  rw[a0B.1 q];exact s _ _ _ (by omega) O
theorem namL_ok(ts:List Token): ∀n l i x j,namL ts n l i= .ok (x,j)->i<=j/\x.length+i<=l.length+j
 |0,l,i,x,j,h=>by rw[namL.eq_1]at h;cases h
 |n+1,l,i,x,j,h=>by
  rw[namL.eq_2]at h;split at h
  ·obtain⟨b,O,z,A⟩:=aB h;have T:=dw z;have E:=namL_ok ts n _ _ _ _ A;rw[a01,List.length_singleton]at E;exact⟨by omega,by omega⟩
  have q:=bc h;rw[←bG h];exact⟨by omega,by omega⟩
theorem namM_ok{ts:List Token}{n i j:Nat}{x:List Str}(h:namM ts n i= .ok (x,j)):i<j/\x.length+i<=j:=by unfold namM at h;obtain⟨a,O,z,A⟩:=aB h;have T:=dw z;have E:=namL_ok ts n _ _ _ _ A;rw[List.length_singleton]at E;exact⟨by omega,by omega⟩
theorem badv(ts:List Token): ∀n l i x j,fF ts n l i= .ok (x,j)->i<j
 |0,l,i,x,j,h=>by rw[fF.eq_1]at h;cases h
 |n+1,l,i,x,j,h=>by
  rw[fF.eq_2]at h;split at h
  ·have q:=bc h;omega
  obtain⟨b,E,z,A⟩:=aB h;have O:=(sadv ts n).1 _ _ _ z;have T:=badv ts n _ _ _ _ A;omega
theorem bfew(ts:List Token): ∀n l i x j,j<=1000000->l.length<=i->(∀s∈l,FewS s)->fF ts n l i= .ok (x,j)->FewL x
 |0,l,i,x,j,_,_,_,h=>by rw[fF.eq_1]at h;cases h
 |n+1,l,i,x,j,hj,hk,hl,h=>by
  rw[fF.eq_2]at h;split at h
  ·have q:=bc h;rw[←bG h];exact fewL_of (by omega) hl
  obtain⟨b,O,A,E⟩:=aB h;have T:=(sadv ts n).1 _ _ _ A;have U:=badv ts n _ _ _ _ E;refine bfew ts n _ _ _ _ hj (by rw[a01,List.length_singleton];omega) (fun z q=>?_) E;rcases a0b.1 q with q|q
  ·exact hl z q
  rw[a0B.1 q];exact(sfew ts n).1 _ _ _ (by omega) A
def FewF(f:FunT):Prop:=f.pars.length<=1000000/\f.locs.length<=1000000/\FewL f.body/\Few f.val
theorem funM_adv{ts:List Token}{n i j:Nat}{x:FunT}(h:funM ts n i= .ok (x,j)):i<j/\(j<=1000000->FewF x):=by
 unfold funM at h;obtain⟨s,i1,h1,h⟩:=aB h;obtain⟨_,O,h2,h⟩:=aB h;obtain⟨p,T,A,h⟩:=aB h;obtain⟨_,U,h4,h⟩:=aB h;obtain⟨l,V,E,h⟩:=aB h;obtain⟨_,i6,h6,h⟩:=aB h;obtain⟨b,i7,Z,h⟩:=aB h;obtain⟨v,i8,h8,h⟩:=aB h;obtain⟨_,i9,h9,h⟩:=aB h;obtain⟨_,a3,Y,h⟩:=aB h;have q1:=dw h1;have q2:=bD h2;have q3:O<=T/\p.length+O<=T:=by
  split at A
  ·have e:=bc A;rw[←bG A];exact⟨by omega,by show 0+O<=T;omega⟩
  have e:=namM_ok A;exact⟨by omega,e.2⟩
 have q4:=bD h4;have q5:U<=V/\l.length+U<=V:=by
  split at E
  ·have e:=namM_ok E;exact⟨by omega,by omega⟩
  have e:=bc E;rw[←bG E];exact⟨by omega,by show 0+U<=V;omega⟩
 have q6:=bD h6;have q7:=badv ts n _ _ _ _ Z;have q8:=(adv ts n).1 _ _ _ h8;have q9:=bD h9;have a4:=bD Y;have a8:=bc h;rw[←bG h];exact⟨by omega,fun hj=>⟨by show p.length<=_;omega,by show l.length<=_;omega,bfew ts n _ _ _ _ (by omega) (a0t _) (fun z q=>(by cases q)) Z,(few ts n).1 _ _ _ h8⟩⟩
theorem padv(ts:List Token): ∀n a f i x j,gD ts n a f i= .ok (x,j)->i<=j
 |0,a,f,i,x,j,h=>by rw[gD.eq_1]at h;cases h
 |n+1,a,f,i,x,j,h=>by
  rw[gD.eq_2]at h;split at h
  ·have q:=bc h;omega
  split at h
  ·obtain⟨s,O,z,h⟩:=aB h;obtain⟨k,T,A,h⟩:=aB h;obtain⟨_,Z,E,h⟩:=aB h;have U:=dw z;have V:=gh A;have q3:=bD E;have Y:=padv ts n _ _ _ _ _ h;omega
  obtain⟨_,O,z,h⟩:=aB h;obtain⟨g,T,A,h⟩:=aB h;have U:=keyM_ok z;have V:=(funM_adv A).1;have Y:=padv ts n _ _ _ _ _ h;omega
theorem pfew(ts:List Token): ∀n a f i x j,j<=1000000->a.length<=i->f.length<=i->(∀g∈f,FewF g)->gD ts n a f i= .ok (x,j)->x.1.length<=1000000/\x.2.length<=1000000/\∀g∈x.2,FewF g
 |0,a,f,i,x,j,_,_,_,_,h=>by rw[gD.eq_1]at h;cases h
 |n+1,a,f,i,x,j,hj,ha,hf,hg,h=>by
  rw[gD.eq_2]at h;split at h
  ·have q:=bc h;rw[←bG h];exact⟨by show a.length<=_;omega,by show f.length<=_;omega,hg⟩
  split at h
  ·obtain⟨s,U,A,h⟩:=aB h;obtain⟨k,V,E,h⟩:=aB h;obtain⟨_,Z,T,h⟩:=aB h;have Y:=dw A;have O:=gh E;have q3:=bD T;exact pfew ts n _ _ _ _ _ hj (by rw[a01,List.length_singleton];omega) (by omega) hg h
  obtain⟨_,U,A,h⟩:=aB h;obtain⟨g,V,E,h⟩:=aB h;have Y:=keyM_ok A;have O:=funM_adv E;have q4:=padv ts n _ _ _ _ _ h;refine pfew ts n _ _ _ _ _ hj (by omega) (by rw[a01,List.length_singleton];omega) (fun z q=>?_) h;rcases a0b.1 q with q|q
  ·exact hg z q
  rw[a0B.1 q];exact O.2 (by omega)
theorem fewP_nil:FewP ⟨[],[]⟩:=⟨by decide,by decide,fun i h=>absurd h (Nat.not_lt_zero _)⟩
theorem par_few{s:List UInt8}{p:PrgT}{e:ErrT}(h:ParR s p e)(hl:s.length<=1000000):FewP p:=by
 unfold ParR at h;split at h
 ·obtain⟨x,i,b,z,hi,A,U⟩:=h;cases b with
  |true=>rw[A];exact fewP_nil
  |false=>
   rcases z with⟨_,j,hj,Y,hn⟩|⟨z,_⟩
   ·have hs:=(bZ s).1;obtain⟨E,O,T⟩:=pfew (av s).1 Y [] [] 0 x j (by omega) (a05 _) (a05 _) (fun g Z=>by cases Z) (hn Y (a05 _));rw[A];refine⟨E,O,fun k V=>T _ ?_⟩;show x.2.getD k default∈x.2;rw[a08,a09 (show k<x.2.length from V)];exact a0w V
   cases z
 rw[h.1];exact fewP_nil
end Go.Proofs.Ytapgbjedgcpffaa.rc
