/-
Plain laws: what the functions compute answers as the statement says. No condition beyond those that each statement names.
-/
import Derived.Test.YtapgbjedgcpffaaZQPG
noncomputable section
namespace Go.Proofs.Ytapgbjedgcpffaa.ph
open Go.R w1 w3 l1 pt pa pb pc pd pe pf pg
set_option linter.unusedVariables false
set_option linter.unusedSimpArgs false
theorem fold_acc(l:List UInt8): ∀a,l.foldl valA a=a *10^l.length+val l:=by
 induction l with
 |nil=>intro a;show a=a *1+0;omega
 |cons c l ih=>
  intro a
  show l.foldl valA (valA a c)=_
  have e:val (c::l)=l.foldl valA (valA 0 c):=rfl
  rw[ih,e,ih (valA 0 c),a01,a1S]
  unfold valA
  rw[a0M,a0M,Nat.mul_zero,Nat.zero_mul,a0A,←a0E,Nat.mul_comm (10^l.length) 10,←Nat.mul_assoc,Nat.mul_comm 10 a]
theorem val_cons(c:UInt8)(l:List UInt8):val (c::l)=(c.toNat-48) *10^l.length+val l:=by show l.foldl valA (valA 0 c)=_;rw[fold_acc];unfold valA;rw[Nat.mul_zero,a0A]
theorem val_lt'{l:List UInt8}(h:l.all eB=true):val l<10^l.length:=by have:=val_lt (s:=l) l.length (a06 _) (by rw[a1g];exact h);rwa [a1g]at this
theorem dig_rng{c:UInt8}(h:eB c=true):48<=c.toNat/\c.toNat<=57:=by simp only[eB,a04,decide_eq_true_eq]at h;exact h
theorem jI{a b:UInt8}:a<b↔a.toNat<b.toNat:=UInt8.lt_iff_toNat_lt
theorem lT: ∀(a b:List UInt8),a.length=b.length->a.all eB=true->b.all eB=true->((Op.bytesLess a b=true↔val a<val b)/\(a=b↔val a=val b))
 | [],[],_,_,_=>⟨by constructor<;>(intro h;exact absurd h (by decide)),by simp⟩
 |c::a,d::b,hl,ha,hb=>by
  rw[a0R,a04]at ha hb;have T:a.length=b.length:=by simpa using hl
  obtain⟨E,O⟩:=lT a b T ha.2 hb.2;have Z:=val_lt' ha.2;have Y:=val_lt' hb.2;have ra:=dig_rng ha.1;have rb:=dig_rng hb.1;rw[val_cons,val_cons,←T];rw[←T]at Y;have hp:0<10^a.length:=Nat.pos_of_ne_zero (by simp);generalize 10^a.length=p at Z Y hp⊢;have key: ∀{x y u w:Nat},x<y->u<p->w<p->x *p+u<y *p+w:=by intro x y u w hx hu hw;have:(x+1) *p<=y *p:=a0x p hx;rw[a0M,Nat.one_mul]at this;omega
  have e:(c=d)↔c.toNat=d.toNat:=⟨fun h=>by rw[h],fun h=>UInt8.toNat_inj.1 h⟩
  rcases Nat.lt_trichotomy c.toNat d.toNat with h|h|h
  ·have:=key (x:=c.toNat-48) (y:=d.toNat-48) (by omega) Z Y;refine⟨⟨fun _=>this,fun _=>?_⟩,⟨fun k=>?_,fun k=>by omega⟩⟩
   ·show(decide (c<d)||_)=true;rw[decide_eq_true (jI.2 h)];rfl
   injection k with k1 k2;rw[k1]at h;omega
  ·obtain rfl:=e.2 h;refine⟨⟨fun k=>?_,fun k=>?_⟩,⟨fun k=>?_,fun k=>?_⟩⟩
   ·have U:(decide (c<c)||(c==c&&Op.bytesLess a b))=true:=k;rw[decide_eq_false (fun q=>by have:=jI.1 q;omega),a1L,a04]at U;have:=E.1 U.2;omega
   ·show(decide (c<c)||(c==c&&Op.bytesLess a b))=true;rw[E.2 (by omega)];simp
   ·injection k with _ k2;have:=O.1 k2;omega
   rw[O.2 (by omega)]
  have:=key (x:=d.toNat-48) (y:=c.toNat-48) (by omega) Y Z;refine⟨⟨fun k=>?_,fun k=>by omega⟩,⟨fun k=>?_,fun k=>by omega⟩⟩
  ·have U:(decide (c<d)||(c==d&&Op.bytesLess a b))=true:=k;rw[decide_eq_false (fun q=>by have:=jI.1 q;omega),a1L,a04]at U;have:=(beq_iff_eq.1 U.1);rw[this]at h;omega
  injection k with k1 _;rw[k1]at h;omega
theorem dig_eq:eB=bu:=rfl
theorem vn_iff{s:List UInt8}(Y:s≠ []):cJ s=true↔iC s=true/\val s<=9223372036854775808:=by
 have hl:1<=s.length:=by cases s with|nil=>exact absurd rfl Y|cons _ _=>simp
 have hd:s.getD 0 0=s.headD 0:=by cases s<;>rfl
 unfold cJ iC;rw[hd,dig_eq];constructor
 ·intro h;simp only[a04,a0O,decide_eq_true_eq]at h⊢;obtain⟨O,U,T⟩:=h;have hv:val s<=9223372036854775808/\s.length<=19:=by
   rcases T with T|⟨T,E⟩
   ·have:=val_lt' (l:=s) O;have Z:10^s.length<=10^18:=Nat.pow_le_pow_right (by decide) (by omega);exact⟨by omega,by omega⟩
   have hs:s.length=19:=beq_iff_eq.1 T;obtain⟨k1,k2⟩:=lT s iZ hs O (by decide);have e:val iZ=9223372036854775808:=by decide
   refine⟨?_,by omega⟩;rcases E with E|E
   ·have:=k1.1 E;omega
   rw[beq_iff_eq.1 E];omega
  exact⟨⟨⟨⟨hl,hv.2⟩,O⟩,U⟩,hv.1⟩
 intro h;simp only[a04,a0O,decide_eq_true_eq]at h⊢;obtain⟨⟨⟨⟨_,Z⟩,O⟩,U⟩,T⟩:=h;refine⟨O,U,?_⟩;rcases a0k s.length 19 with E|E
 ·exact .inl E
 have hs:s.length=19:=by omega
 refine .inr ⟨beq_iff_eq.2 hs,?_⟩;obtain⟨k1,k2⟩:=lT s iZ hs O (by decide);have e:val iZ=9223372036854775808:=by decide
 rcases a0k (val s) 9223372036854775808 with h6|h6
 ·exact .inl (k1.2 (by omega))
 exact .inr (beq_iff_eq.2 (k2.2 (by omega)))
def TokOK(t:Token):Prop:=(t.kind=1/\bT (t.text.b.headD 0)=true)\/(t.kind=2/\iC t.text.b=true/\val t.text.b<=9223372036854775808)\/(t.kind=3/\bF (t.text.b.headD 0)=false)
def TksOK(ts:List Token):Prop:= ∀i,i<ts.length->TokOK (ts.getD i default)
end Go.Proofs.Ytapgbjedgcpffaa.ph
