/-
Plain laws: what the functions compute answers as the statement says. No condition beyond those that each statement names.
-/
import Derived.Test.YtapgbjedgcpffaaZTPG
noncomputable section
namespace Go.Proofs.Ytapgbjedgcpffaa.gx
open Go.R l1 w3 pt
set_option linter.unusedVariables false
set_option linter.unusedSimpArgs false
def pos{α:Type}:Rs α->Nat
 | .ok (_,j)=>j
 | .error p=>p
section
variable {α β:Type} {i c:Nat}
theorem bu{x:α}{j:Nat}(h:i<=j):i<=pos (.ok (x,j):Rs α):=h
theorem ak{m:Rs α}{f:α->Nat->Rs β}(h:i<=pos m)(k: ∀x j,i<=j->i<=pos (f x j)):i<=pos (bnd m f):=by
 cases m with
 |error p=>exact h
 |ok q=>exact k q.1 q.2 h
theorem aQ{p:Prop} [Decidable p]{a b:Rs α}(h:i<=pos a)(k:i<=pos b):i<=pos (if p then a else b):=by split<;>assumption
end
theorem aA(ts:List Token)(w:List UInt8)(i:Nat):i<=pos (eY ts w i):=aQ (bu (a1G i)) (a07 i)
theorem keyM_pos(ts:List Token)(w:List UInt8)(i:Nat):i<=pos (keyM ts w i):=aQ (bu (a1G i)) (a07 i)
theorem dJ(ts:List Token)(i:Nat):i<=pos (dR ts i):=aQ (bu (a1G i)) (a07 i)
theorem jt(ts:List Token)(i:Nat):i<=pos (eB ts i):=aQ (bu (a1G i)) (a07 i)
theorem gN(ts:List Token): ∀n,(∀i,i<=pos (bK ts n i))/\(∀k i,i<=pos (ij ts n k i))/\(∀k a i,i<=pos (fK ts n k a i))/\(∀i,i<=pos (fp ts n i))/\(∀i,i<=pos (lJ ts n i))
 |0=>⟨fun i=>(by rw[bK];exact a07 i),fun _ i=>(by rw[ij];exact a07 i),fun _ _ i=>(by rw[fK];exact a07 i),fun i=>(by rw[fp];exact a07 i),fun i=>(by rw[lJ];exact a07 i)⟩
 |n+1=>by
  obtain⟨e,b,l,u,p⟩:=gN ts n;refine⟨fun i=>?_,fun k i=>?_,fun k a i=>?_,fun i=>?_,fun i=>?_⟩
  ·rw[bK];exact ak (b 0 i) fun _ j h=>aQ (ak (a05 (by omega) (e (j+1))) fun _ j h=>ak (a05 h (aA ..)) fun _ j h=>ak (a05 h (e j)) fun _ j h=>bu h) (bu h)
  ·rw[ij];exact aQ (u i) (ak (b (k+1) i) fun _ j h=>a05 h (l ..))
  ·rw[fK];exact aQ (bu (a07 i)) (ak (a05 (by omega) (b (k+1) (i+1))) fun _ j h=>a05 h (l ..))
  ·rw[fp];have O:=u (i+1);have E:=e (i+1);exact aQ (aQ (bu (by omega)) (ak (by omega) fun _ j h=>bu h)) (aQ (ak (by omega) fun _ j h=>bu h) (aQ (ak (by omega) fun _ j h=>bu h) (aQ (ak (by omega) fun _ j h=>ak (a05 h (aA ..)) fun _ j h=>bu h) (p i))))
  rw[lJ];exact aQ (aQ (bu (by omega)) (a07 i)) (ak (dJ ts i) fun _ j h=>aQ (ak (a05 (by omega) (e (j+1))) fun _ j h=>ak (a05 h (aA ..)) fun _ j h=>bu h) (bu h))
theorem cE(ts:List Token)(n i:Nat):i<=pos (bK ts n i):=(gN ts n).1 i
theorem hO(ts:List Token): ∀n l i,i<=pos (argL ts n l i)
 |0,_,i=>by rw[argL];exact a07 i
 |n+1,l,i=>by rw[argL];exact aQ (ak (a05 (by omega) (cE ts n (i+1))) fun _ j h=>a05 h (hO ts n _ j)) (ak (aA ..) fun _ j h=>bu h)
theorem jg(ts:List Token)(n i:Nat):i<=pos (argM ts n i):=ak (aA ..) fun _ j h=>aQ (bu (by omega)) (ak (a05 h (cE ..)) fun _ j h=>a05 h (hO ..))
theorem condM_pos(ts:List Token)(n i:Nat):i<=pos (kh ts n i):=ak (aA ..) fun _ j h=>ak (a05 h (cE ..)) fun _ j h=>ak (a05 h (aA ..)) fun _ j h=>bu h
theorem simM_pos(ts:List Token)(n i:Nat):i<=pos (simM ts n i):=by
 unfold simM;have E:=cE ts n (i+1);have O:=jt ts (i+1);exact aQ (ak (by omega) fun _ j h=>bu h) (aQ (ak (by omega) fun _ j h=>bu h) (ak (dJ ..) fun _ j h=>aQ (ak (a05 (by omega) (cE ts n (j+1))) fun _ j h=>ak (a05 h (aA ..)) fun _ j h=>ak (a05 h (aA ..)) fun _ j h=>ak (a05 h (cE ..)) fun _ j h=>bu h)
  (ak (a05 h (aA ..)) fun _ j h=>aQ (ak (a05 h (dJ ..)) fun _ j h=>ak (a05 h (jg ..)) fun _ j h=>bu h) (ak (a05 h (cE ..)) fun _ j h=>bu h))))
theorem mG(ts:List Token): ∀n,(∀i,i<=pos (kP ts n i))/\(∀i,i<=pos (mv ts n i))/\(∀l i,i<=pos (stsM ts n l i))
 |0=>⟨fun i=>(by rw[kP];exact a07 i),fun i=>(by rw[mv];exact a07 i),fun _ i=>(by rw[stsM];exact a07 i)⟩
 |n+1=>by
  obtain⟨s,b,l⟩:=mG ts n;refine⟨fun i=>?_,fun i=>?_,fun q i=>?_⟩
  ·rw[kP];have c1:=condM_pos ts n (i+1);exact aQ (ak (by omega) fun _ j h=>ak (a05 h (b j)) fun _ j h=>aQ (ak (a05 (by omega) (b (j+1))) fun _ j h=>bu h) (bu h)) (aQ (ak (by omega) fun _ j h=>ak (a05 h (b j)) fun _ j h=>bu h) (ak (simM_pos ..) fun _ j h=>ak (a05 h (aA ..)) fun _ j h=>bu h))
  ·rw[mv];exact ak (aA ..) fun _ j h=>a05 h (l _ j)
  rw[stsM];exact aQ (bu (by omega)) (ak (s i) fun _ j h=>a05 h (l _ j))
theorem i4(ts:List Token): ∀n l i,i<=pos (namL ts n l i)
 |0,_,i=>by rw[namL];exact a07 i
 |n+1,l,i=>by rw[namL];exact aQ (ak (a05 (by omega) (dJ ts (i+1))) fun _ j h=>a05 h (i4 ts n _ j)) (bu (a07 i))
theorem fv(ts:List Token)(n i:Nat):i<=pos (namM ts n i):=ak (dJ ..) fun _ j h=>a05 h (i4 ..)
theorem jf(ts:List Token): ∀n l i,i<=pos (iR ts n l i)
 |0,_,i=>by rw[iR];exact a07 i
 |n+1,l,i=>by rw[iR];exact aQ (bu (by omega)) (ak ((mG ts n).1 i) fun _ j h=>a05 h (jf ts n _ j))
theorem funM_pos(ts:List Token)(n i:Nat):i<=pos (ma ts n i):=
 ak (dJ ..) fun _ j h=>ak (a05 h (aA ..)) fun _ j h=>ak (aQ (bu h) (a05 h (fv ..))) fun _ j h=>ak (a05 h (aA ..)) fun _ j h=>ak (aQ (a05 (by omega) (fv ts n (j+1))) (bu h)) fun _ j h=>ak (a05 h (aA ..)) fun _ j h=>ak (a05 h (jf ..)) fun _ j h=>ak (a05 h (cE ..)) fun _ j h=>ak (a05 h (aA ..)) fun _ j h=>ak (a05 h (aA ..)) fun _ j h=>bu h
def Tk(a b:Token):Prop:=a.kind=b.kind/\(a.kind≠2->a.text=b.text)/\(a.kind=2->(aO a.text.b).isSome=true->(aO b.text.b).isSome=true/\((aO a.text.b).getD 0<=1000000->(aO b.text.b).getD 0<=1000000))
def Al(ts us:List Token)(c:Nat):Prop:= ∀i,i<c->Tk (ts.getD i default) (us.getD i default)
section
variable {ts us:List Token} {c:Nat} (h:Al ts us c)
include h
theorem Al.s{i:Nat}(hi:i<c)(w:List UInt8):isS us i w=isS ts i w:=by
 obtain⟨E,O,_⟩:=h i hi;unfold isS;rw[←E];by_cases k:(ts.getD i default).kind=3
 ·rw[O (by rw[k];decide)]
 rw[decide_eq_false k];rfl
theorem Al.k{i:Nat}(hi:i<c)(w:List UInt8):isK us i w=isK ts i w:=by
 obtain⟨E,O,_⟩:=h i hi;unfold isK;rw[←E];by_cases k:(ts.getD i default).kind=1
 ·rw[O (by rw[k];decide)]
 rw[decide_eq_false k];rfl
theorem Al.n{i:Nat}(hi:i<c):isN us i=isN ts i:=by
 obtain⟨E,O,_⟩:=h i hi;unfold isN;rw[←E];by_cases k:(ts.getD i default).kind=1
 ·rw[O (by rw[k];decide)]
 rw[decide_eq_false k];rfl
theorem Al.m{i:Nat}(hi:i<c):isM us i=isM ts i:=by unfold isM;rw[(h i hi).1]
theorem Al.o{i:Nat}(hi:i<c)(k:Nat):opK us k i=opK ts k i:=by
 obtain⟨E,O,_⟩:=h i hi;unfold opK;rw[←E];by_cases q:(ts.getD i default).kind=3
 ·rw[O (by rw[q];decide)]
 rw[decide_eq_false q];rfl
theorem Al.v{i:Nat}(hi:i<c)(E:isM ts i=true)(O:(numV ts i).isSome=true):(numV us i).isSome=true/\((numV ts i).getD 0<=1000000->(numV us i).getD 0<=1000000):=(h i hi).2.2 (of_decide_eq_true E) O
end
def Cl{α:Type}(c:Nat)(r q:Rs α):Prop:= ∀x j,r= .ok (x,j)->(j<c/\∃y,q= .ok (y,j))\/c<=pos q
section
variable {α β:Type} {c:Nat}
theorem Cl.far{r q:Rs α}(h:c<=pos q):Cl c r q:=fun _ _ _=> .inr h
theorem Cl.err{p:Nat}{q:Rs α}:Cl c (.error p) q:=fun _ _ h=>by cases h
theorem Cl.val{x y:α}{i:Nat}:Cl c (.ok (x,i)) (.ok (y,i)):=fun z j h=>by
 injection h with h;injection h with O E;rcases a0d i c with k|k
 ·exact .inl ⟨by omega,y,by rw[E]⟩
 exact .inr k
theorem Cl.bnd{m O:Rs α}{f f':α->Nat->Rs β}(h:Cl c m O)(k: ∀x y j,j<c->Cl c (f x j) (f' y j))(T: ∀y j,j<=pos (f' y j)):Cl c (pt.bnd m f) (pt.bnd O f'):=fun x j e=>by
 cases m with
 |error p=>cases e
 |ok q=>
  rcases h q.1 q.2 rfl with⟨E,y,rfl⟩|E
  ·exact k q.1 y q.2 E x j e
  refine .inr ?_
  cases O with
  |error p=>exact E
  |ok q'=>exact a05 E (T q'.1 q'.2)
theorem Cl.ite{a b:Bool}{r O q E:Rs α}(e:b=a)(h:a=true->Cl c r q)(k:a=false->Cl c O E):Cl c (if a=true then r else O) (if b=true then q else E):=by
 subst e;cases b with
 |true=>exact h rfl
 |false=>exact k rfl
end
section
variable {ts us:List Token} {c:Nat} (h:Al ts us c)
include h
theorem cx(w:List UInt8)(i:Nat):Cl c (eY ts w i) (eY us w i):=by
 rcases a0d i c with hi|hi
 ·unfold eY;exact .ite (h.s hi w) (fun _=> .val) fun _=> .err
 exact .far (a05 hi (aA ..))
theorem keyM_cl(w:List UInt8)(i:Nat):Cl c (keyM ts w i) (keyM us w i):=by
 rcases a0d i c with hi|hi
 ·unfold keyM;exact .ite (h.k hi w) (fun _=> .val) fun _=> .err
 exact .far (a05 hi (keyM_pos ..))
theorem gc(i:Nat):Cl c (dR ts i) (dR us i):=by
 rcases a0d i c with hi|hi
 ·unfold dR;exact .ite (h.n hi) (fun _=> .val) fun _=> .err
 exact .far (a05 hi (dJ ..))
theorem smallM_cl(i:Nat):Cl c (eB ts i) (eB us i):=by
 rcases a0d i c with hi|hi
 ·unfold eB;split
  ·next q=>
   rw[a04,a04,decide_eq_true_eq]at q;have v:=h.v hi q.1.1 q.1.2;rw[h.m hi,q.1.1,v.1,decide_eq_true (v.2 q.2)];exact .val
  exact .err
 exact .far (a05 hi (jt ..))
theorem exM_cl: ∀n Y,n<=Y->(∀i,Cl c (bK ts n i) (bK us Y i))/\(∀k i,Cl c (ij ts n k i) (ij us Y k i))/\(∀k a b i,Cl c (fK ts n k a i) (fK us Y k b i))/\(∀i,Cl c (fp ts n i) (fp us Y i))/\(∀i,Cl c (lJ ts n i) (lJ us Y i))
 |0,_,_=>⟨fun i=>(by rw[bK];exact .err),fun _ i=>(by rw[ij];exact .err),fun _ _ _ i=>(by rw[fK.eq_1];exact .err),fun i=>(by rw[fp];exact .err),fun i=>(by rw[lJ];exact .err)⟩
 |n+1,0,k=>absurd k (by omega)
 |n+1,Y+1,k=>by
  obtain⟨e,b,l,u,p⟩:=exM_cl n Y (by omega);have P:=gN us (Y+1);have Q:=gN us Y;refine⟨fun i=>?_,fun k i=>?_,fun k a a' i=>?_,fun i=>?_,fun i=>?_⟩
  ·rw[bK,bK];refine .bnd (b 0 i) (fun x y j Z=> .ite (h.s Z [63]) (fun _=>?_) fun _=> .val) fun y j=>?_
   ·refine .bnd (e (j+1)) (fun _ _ j Z=> .bnd (cx h _ _) (fun _ _ j Z=> .bnd (e j) (fun _ _ j Z=> .val) fun _ j=>a07 j) fun _ j=>?_) fun _ j=>?_
    ·exact ak (Q.1 j) fun _ j h=>h
    exact ak (aA ..) fun _ j h=>ak (a05 h (Q.1 j)) fun _ j h=>h
   exact aQ (ak (a05 (by omega) (Q.1 (j+1))) fun _ j h=>ak (a05 h (aA ..)) fun _ j h=>ak (a05 h (Q.1 j)) fun _ j h=>h) (a07 j)
  ·rw[ij,ij];by_cases O:k=8
   ·rw[if_pos O,if_pos O];exact u i
   rw[if_neg O,if_neg O];exact .bnd (b (k+1) i) (fun x y j Z=>l k x y j) fun y j=>Q.2.2.1 ..
  ·rcases a0d i c with hi|hi
   ·rw[fK.eq_2,fK.eq_2,h.o hi k];by_cases E:opK ts k i=0
    ·rw[if_pos E,if_pos E];exact .val
    rw[if_neg E,if_neg E];exact .bnd (b (k+1) (i+1)) (fun x y j Z=>l k _ _ j) fun y j=>Q.2.2.1 ..
   exact .far (a05 hi (P.2.2.1 ..))
  ·rcases a0d i c with hi|hi
   ·rcases a0d (i+1) c with T|T
    ·rw[fp,fp];refine .ite (h.s hi [45]) (fun _=> .ite (h.m T) (fun _=> .val) fun _=> .bnd (u (i+1)) (fun _ _ j _=> .val) fun _ j=>a07 j) fun _=> .ite (h.s hi [126]) (fun _=> .bnd (u (i+1)) (fun _ _ j _=> .val) fun _ j=>a07 j) fun _=> .ite (h.s hi [33]) (fun _=> .bnd (u (i+1)) (fun _ _ j _=> .val) fun _ j=>a07 j) fun _=> .ite (h.s hi [40]) (fun _=> .bnd (e (i+1)) (fun _ _ j _=> .bnd (cx h _ _) (fun _ _ j _=> .val) fun _ j=>a07 j) fun _ j=>ak (aA ..) fun _ j h=>h) fun _=>p i
    rw[fp,fp];have U:=Q.2.2.2.1 (i+1);refine .ite (h.s hi [45]) (fun _=> .far (aQ (bu (by omega)) (ak (by omega) fun _ j h=>h))) fun _=> .ite (h.s hi [126]) (fun _=> .bnd (u (i+1)) (fun _ _ j _=> .val) fun _ j=>a07 j) fun _=> .ite (h.s hi [33]) (fun _=> .bnd (u (i+1)) (fun _ _ j _=> .val) fun _ j=>a07 j) fun _=> .ite (h.s hi [40]) (fun _=> .bnd (e (i+1)) (fun _ _ j _=> .bnd (cx h _ _) (fun _ _ j _=> .val) fun _ j=>a07 j) fun _ j=>ak (aA ..) fun _ j h=>h) fun _=>p i
   exact .far (a05 hi (P.2.2.2.1 i))
  rcases a0d i c with hi|hi
  ·rw[lJ,lJ];refine .ite (h.m hi) (fun hm=>?_) fun _=> .bnd (gc h i) (fun _ _ j Z=> .ite (h.s Z [91]) (fun _=> .bnd (e (j+1)) (fun _ _ j _=> .bnd (cx h _ _) (fun _ _ j _=> .val) fun _ j=>a07 j) fun _ j=>ak (aA ..) fun _ j h=>h) fun _=> .val) fun _ j=>aQ (ak (a05 (by omega) (Q.1 (j+1))) fun _ j h=>ak (a05 h (aA ..)) fun _ j h=>h) (a07 j)
   split
   ·next hv=>rw[(h.v hi hm hv).1];exact .val
   exact .err
  exact .far (a05 hi (P.2.2.2.2 i))
end
theorem una_nm{us:List Token}{i n:Nat}(h:isN us i=true):i+1<=pos (fp us (n+2) i):=by
 have O:(us.getD i default).kind=1:=by unfold isN at h;rw[a04,decide_eq_true_eq]at h;exact h.1
 have E: ∀w,isS us i w=false:=fun w=>by unfold isS;rw[O];rfl
 have T:isM us i=false:=by unfold isM;rw[O];rfl
 rw[fp,E,E,E,E,lJ,T];simp only[a0k,if_false];unfold dR;rw[if_pos h];exact aQ (ak (a05 (by omega) ((gN us n).1 (i+1+1))) fun _ j h=>ak (a05 h (aA ..)) fun _ j h=>h) (a07 _)
theorem bin_nm{us:List Token}{i n:Nat}(h:isN us i=true): ∀q,q<=8->i+1<=pos (ij us (n+3+q) (8-q) i)
 |0,_=>by rw[show n+3+0=n+2+1 from rfl,ij,if_pos rfl];exact una_nm h
 |q+1,hq=>by rw[show n+3+(q+1)=n+3+q+1 from rfl,ij,if_neg (by omega),show 8-(q+1)+1=8-q by omega];exact ak (bin_nm h q (by omega)) fun _ j k=>a05 k ((gN us _).2.2.1 ..)
theorem ex_nm{us:List Token}{i n:Nat}(h:isN us i=true)(E:12<=n):i+1<=pos (bK us n i):=by
 obtain⟨m,rfl⟩: ∃m,n=m+3+8+1:=⟨n-12,by omega⟩
 rw[bK];exact ak (bin_nm h 8 (a07 _)) fun _ j k=>aQ (ak (a05 (by omega) ((gN us _).1 (j+1))) fun _ j h=>ak (a05 h (aA ..)) fun _ j h=>ak (a05 h ((gN us _).1 j)) fun _ j h=>h) k
section
variable {ts us:List Token} {c:Nat} (h:Al ts us c)
include h
theorem eL{n E:Nat}(k:n+12<=E)(i:Nat):Cl c (bK ts n i) (bK us E i):=(exM_cl h n E (by omega)).1 i
theorem argL_cl: ∀n E l l' i,n+12<=E->Cl c (argL ts n l i) (argL us E l' i)
 |0,_,_,_,i,_=>by rw[argL];exact .err
 |n+1,0,_,_,_,k=>absurd k (by omega)
 |n+1,E+1,l,l',i,k=>by
  rcases a0d i c with hi|hi
  ·rw[argL,argL];exact .ite (h.s hi [44]) (fun _=> .bnd (eL h (by omega) _) (fun _ _ j _=>argL_cl n E _ _ j (by omega)) fun _ j=>hO ..) fun _=> .bnd (cx h _ _) (fun _ _ j _=> .val) fun _ j=>a07 j
  exact .far (a05 hi (hO ..))
theorem argM_cl{n E:Nat}(k:n+12<=E)(i:Nat):Cl c (argM ts n i) (argM us E i):=by unfold argM;exact .bnd (cx h _ _) (fun _ _ j O=> .ite (h.s O [41]) (fun _=> .val) fun _=> .bnd (eL h k _) (fun _ _ j _=>argL_cl h n E _ _ j k) fun _ j=>hO ..) fun _ j=>aQ (bu (by omega)) (ak (cE ..) fun _ j h=>a05 h (hO ..))
theorem condM_cl{n E:Nat}(k:n+12<=E)(i:Nat):Cl c (kh ts n i) (kh us E i):=by unfold kh;exact .bnd (cx h _ _) (fun _ _ j _=> .bnd (eL h k _) (fun _ _ j _=> .bnd (cx h _ _) (fun _ _ j _=> .val) fun _ j=>a07 j) fun _ j=>ak (aA ..) fun _ j h=>h) fun _ j=>ak (cE ..) fun _ j h=>ak (a05 h (aA ..)) fun _ j h=>h
theorem simM_cl{n Y:Nat}(k:n+12<=Y)(i:Nat):Cl c (simM ts n i) (simM us Y i):=by
 rcases a0d i c with hi|hi
 ·unfold simM;have E:=fun j=>cE us Y j
  refine .ite (h.k hi _) (fun _=> .bnd (eL h k _) (fun _ _ j _=> .val) fun _ j=>a07 j) fun _=> .ite (h.k hi _) (fun _=> .bnd (smallM_cl h _) (fun _ _ j _=> .val) fun _ j=>a07 j) fun _=> .bnd (gc h i) (fun _ _ j T=> .ite (h.s T [91]) (fun _=>?_) fun _=>?_) fun _ j=>?_
  ·exact .bnd (eL h k _) (fun _ _ j _=> .bnd (cx h _ _) (fun _ _ j _=> .bnd (cx h _ _) (fun _ _ j _=> .bnd (eL h k _) (fun _ _ j _=> .val) fun _ j=>a07 j) fun _ j=>ak (E j) fun _ j h=>h) fun _ j=>ak (aA ..) fun _ j h=>ak (a05 h (E j)) fun _ j h=>h) fun _ j=>ak (aA ..) fun _ j h=>ak (a05 h (aA ..)) fun _ j h=>ak (a05 h (E j)) fun _ j h=>h
  ·refine .bnd (cx h _ _) (fun _ _ j T=>?_) fun _ j=>aQ (ak (dJ ..) fun _ j h=>ak (a05 h (jg ..)) fun _ j h=>h) (ak (E j) fun _ j h=>h)
   rcases a0d (j+1) c with O|O
   ·exact .ite (by rw[h.n T,h.s O]) (fun _=> .bnd (gc h _) (fun _ _ j _=> .bnd (argM_cl h k _) (fun _ _ j _=> .val) fun _ j=>a07 j) fun _ j=>ak (jg ..) fun _ j h=>h) fun _=> .bnd (eL h k _) (fun _ _ j _=> .val) fun _ j=>a07 j
   cases U:isN us j with
   |true=>
    refine .far (aQ (ak ?_ fun _ j h=>ak (a05 h (jg ..)) fun _ j h=>h) (ak (a05 O (ex_nm U (by omega))) fun _ j h=>h))
    unfold dR;rw[if_pos U];exact O
   |false=>
    rw[←h.n T,U,Bool.false_and]
    exact .bnd (eL h k _) (fun _ _ j _=> .val) fun _ j=>a07 j
  exact aQ (ak (a05 (by omega) (E (j+1))) fun _ j h=>ak (a05 h (aA ..)) fun _ j h=>ak (a05 h (aA ..)) fun _ j h=>ak (a05 h (E j)) fun _ j h=>h) (ak (aA ..) fun _ j h=>aQ (ak (a05 h (dJ ..)) fun _ j h=>ak (a05 h (jg ..)) fun _ j h=>h) (ak (a05 h (E j)) fun _ j h=>h))
 exact .far (a05 hi (simM_pos ..))
theorem stM_cl: ∀n E,n+12<=E->(∀i,Cl c (kP ts n i) (kP us E i))/\(∀i,Cl c (mv ts n i) (mv us E i))/\(∀l l' i,Cl c (stsM ts n l i) (stsM us E l' i))
 |0,_,_=>⟨fun i=>(by rw[kP];exact .err),fun i=>(by rw[mv];exact .err),fun _ _ i=>(by rw[stsM];exact .err)⟩
 |n+1,0,k=>absurd k (by omega)
 |n+1,E+1,k=>by
  obtain⟨s,b,l⟩:=stM_cl n E (by omega);have P:=mG us (E+1);have Q:=mG us E;refine⟨fun i=>?_,fun i=>?_,fun q T i=>?_⟩
  ·rcases a0d i c with hi|hi
   ·rw[kP,kP];exact .ite (h.k hi _) (fun _=> .bnd (condM_cl h (by omega) _) (fun _ _ j _=> .bnd (b j) (fun _ _ j O=> .ite (h.k O _) (fun _=> .bnd (b _) (fun _ _ j _=> .val) fun _ j=>a07 j) fun _=> .val) fun _ j=>aQ (ak (a05 (by omega) (Q.2.1 (j+1))) fun _ j h=>h) (a07 j)) fun _ j=>ak (Q.2.1 j) fun _ j h=>aQ (ak (a05 (by omega) (Q.2.1 (j+1))) fun _ j h=>h) h) fun _=> .ite (h.k hi _) (fun _=> .bnd (condM_cl h (by omega) _) (fun _ _ j _=> .bnd (b j) (fun _ _ j O=> .val) fun _ j=>a07 j) fun _ j=>ak (Q.2.1 j) fun _ j h=>h) fun _=> .bnd (simM_cl h (by omega) _) (fun _ _ j _=> .bnd (cx h _ _) (fun _ _ j _=> .val) fun _ j=>a07 j) fun _ j=>ak (aA ..) fun _ j h=>h
   exact .far (a05 hi (P.1 i))
  ·rw[mv,mv];exact .bnd (cx h _ _) (fun _ _ j _=>l _ _ j) fun _ j=>Q.2.2 ..
  rcases a0d i c with hi|hi
  ·rw[stsM,stsM];exact .ite (h.s hi _) (fun _=> .val) fun _=> .bnd (s i) (fun _ _ j _=>l _ _ j) fun _ j=>Q.2.2 ..
  exact .far (a05 hi (P.2.2 ..))
theorem namL_cl: ∀n E l l' i,n+12<=E->Cl c (namL ts n l i) (namL us E l' i)
 |0,_,_,_,i,_=>by rw[namL];exact .err
 |n+1,0,_,_,_,k=>absurd k (by omega)
 |n+1,E+1,l,l',i,k=>by
  rcases a0d i c with hi|hi
  ·rw[namL,namL];exact .ite (h.s hi [44]) (fun _=> .bnd (gc h _) (fun _ _ j _=>namL_cl n E _ _ j (by omega)) fun _ j=>i4 ..) fun _=> .val
  exact .far (a05 hi (i4 ..))
theorem namM_cl{n E:Nat}(k:n+12<=E)(i:Nat):Cl c (namM ts n i) (namM us E i):=by unfold namM;exact .bnd (gc h _) (fun _ _ j _=>namL_cl h n E _ _ j k) fun _ j=>i4 ..
theorem bodL_cl: ∀n E l l' i,n+12<=E->Cl c (iR ts n l i) (iR us E l' i)
 |0,_,_,_,i,_=>by rw[iR];exact .err
 |n+1,0,_,_,_,k=>absurd k (by omega)
 |n+1,E+1,l,l',i,k=>by
  rcases a0d i c with hi|hi
  ·rw[iR,iR];exact .ite (h.k hi _) (fun _=> .val) fun _=> .bnd ((stM_cl h n E (by omega)).1 i) (fun _ _ j _=>bodL_cl n E _ _ j (by omega)) fun _ j=>jf ..
  exact .far (a05 hi (jf ..))
theorem funM_cl{n O:Nat}(k:n+12<=O)(i:Nat):Cl c (ma ts n i) (ma us O i):=by
 unfold ma;have X:=fun j=>cE us O j
 have B:=fun l j=>jf us O l j
 have E: ∀j,j<=pos (pt.bnd (eY us [125] j) fun _ i=>(.ok (default,i):Rs FunT)):=fun j=>ak (aA ..) fun _ j h=>h
 refine .bnd (gc h _) (fun s Z j _=> .bnd (cx h _ _) (fun _ _ j T=> .bnd (.ite (h.s T [41]) (fun _=> .val) fun _=>namM_cl h k _) (fun p Y j _=> .bnd (cx h _ _) (fun _ _ j T=> .bnd (.ite (h.k T _) (fun _=>namM_cl h k _) fun _=> .val) (fun l l' j _=> .bnd (cx h _ _) (fun _ _ j _=> .bnd (bodL_cl h n O _ _ j k) (fun b U j _=> .bnd (eL h k _) (fun v v' j _=> .bnd (cx h _ _) (fun _ _ j _=> .bnd (cx h _ _) (fun _ _ j _=> .val) fun _ j=>a07 j) fun _ j=>?_) fun _ j=>?_) fun _ j=>?_) fun _ j=>?_) fun _ j=>?_) fun _ j=>?_) fun _ j=>?_) fun _ j=>?_) fun _ j=>?_
 ·exact ak (aA ..) fun _ j h=>h
 ·exact ak (aA ..) fun _ j h=>ak (a05 h (aA ..)) fun _ j h=>h
 ·exact ak (X j) fun _ j h=>ak (a05 h (aA ..)) fun _ j h=>ak (a05 h (aA ..)) fun _ j h=>h
 ·exact ak (B _ j) fun _ j h=>ak (a05 h (X j)) fun _ j h=>ak (a05 h (aA ..)) fun _ j h=>ak (a05 h (aA ..)) fun _ j h=>h
 ·exact ak (aA ..) fun _ j h=>ak (a05 h (B _ j)) fun _ j h=>ak (a05 h (X j)) fun _ j h=>ak (a05 h (aA ..)) fun _ j h=>ak (a05 h (aA ..)) fun _ j h=>h
 ·exact ak (aQ (a05 (by omega) (fv us O (j+1))) (a07 j)) fun _ j h=>ak (a05 h (aA ..)) fun _ j h=>ak (a05 h (B _ j)) fun _ j h=>ak (a05 h (X j)) fun _ j h=>ak (a05 h (aA ..)) fun _ j h=>ak (a05 h (aA ..)) fun _ j h=>h
 ·exact ak (aA ..) fun _ j h=>ak (aQ (a05 (by omega) (fv us O (j+1))) h) fun _ j h=>ak (a05 h (aA ..)) fun _ j h=>ak (a05 h (B _ j)) fun _ j h=>ak (a05 h (X j)) fun _ j h=>ak (a05 h (aA ..)) fun _ j h=>ak (a05 h (aA ..)) fun _ j h=>h
 ·exact ak (aQ (a07 j) (fv us O j)) fun _ j h=>ak (a05 h (aA ..)) fun _ j h=>ak (aQ (a05 (by omega) (fv us O (j+1))) h) fun _ j h=>ak (a05 h (aA ..)) fun _ j h=>ak (a05 h (B _ j)) fun _ j h=>ak (a05 h (X j)) fun _ j h=>ak (a05 h (aA ..)) fun _ j h=>ak (a05 h (aA ..)) fun _ j h=>h
 exact ak (aA ..) fun _ j h=>ak (aQ h (a05 h (fv us O j))) fun _ j h=>ak (a05 h (aA ..)) fun _ j h=>ak (aQ (a05 (by omega) (fv us O (j+1))) h) fun _ j h=>ak (a05 h (aA ..)) fun _ j h=>ak (a05 h (B _ j)) fun _ j h=>ak (a05 h (X j)) fun _ j h=>ak (a05 h (aA ..)) fun _ j h=>ak (a05 h (aA ..)) fun _ j h=>h
end
end Go.Proofs.Ytapgbjedgcpffaa.gx
