/-
Plain laws: what the functions compute answers as the statement says. No condition beyond those that each statement names.
-/
import Derived.Test.YtapgbjedgcpffaaZNPG
noncomputable section
namespace Go.Proofs.Ytapgbjedgcpffaa.ph
open Go.R w1 w3 l1 pt pa pb pc pd pe pf pg
set_option linter.unusedVariables false
set_option linter.unusedSimpArgs false
theorem fold_acc(l:List UInt8): ∀a,l.foldl valA a=a *10^l.length+val l:=by
 induction l with
 |nil=>intro a;show a=a *1+0;omega
 |cons c l ih=>
  intro a
  show l.foldl valA (valA a c)=_
  have e:val (c::l)=l.foldl valA (valA 0 c):=rfl
  rw[ih,e,ih (valA 0 c),a05,a1x]
  unfold valA
  rw[a0x,a0x,Nat.mul_zero,Nat.zero_mul,a0R,←a0U,Nat.mul_comm (10^l.length) 10,←Nat.mul_assoc,Nat.mul_comm 10 a]
theorem val_cons(c:UInt8)(l:List UInt8):val (c::l)=(c.toNat-48) *10^l.length+val l:=by show l.foldl valA (valA 0 c)=_;rw[fold_acc];unfold valA;rw[Nat.mul_zero,a0R]
theorem val_lt'{l:List UInt8}(h:l.all dw=true):val l<10^l.length:=by have:=val_lt (s:=l) l.length (a06 _) (by rw[a1b];exact h);rwa [a1b]at this
theorem dig_rng{c:UInt8}(h:dw c=true):48<=c.toNat/\c.toNat<=57:=by simp only[dw,a04,decide_eq_true_eq]at h;exact h
theorem g0{a b:UInt8}:a<b↔a.toNat<b.toNat:=UInt8.lt_iff_toNat_lt
theorem jv: ∀(a b:List UInt8),a.length=b.length->a.all dw=true->b.all dw=true->((Op.bytesLess a b=true↔val a<val b)/\(a=b↔val a=val b))
 | [],[],_,_,_=>⟨by constructor<;>(intro h;exact absurd h (by decide)),by simp⟩
 |c::a,d::b,hl,ha,hb=>by
  rw[a0A,a04]at ha hb;have E:a.length=b.length:=by simpa using hl
  obtain⟨z,A⟩:=jv a b E ha.2 hb.2;have U:=val_lt' ha.2;have T:=val_lt' hb.2;have ra:=dig_rng ha.1;have rb:=dig_rng hb.1;rw[val_cons,val_cons,←E];rw[←E]at T;have V:0<10^a.length:=Nat.pos_of_ne_zero (by simp);generalize 10^a.length=p at U T V⊢;have key: ∀{x y u w:Nat},x<y->u<p->w<p->x *p+u<y *p+w:=by intro x y u w Y Z hw;have:(x+1) *p<=y *p:=a0w p Y;rw[a0x,Nat.one_mul]at this;omega
  have e:(c=d)↔c.toNat=d.toNat:=⟨fun h=>by rw[h],fun h=>UInt8.toNat_inj.1 h⟩
  rcases Nat.lt_trichotomy c.toNat d.toNat with h|h|h
  ·have:=key (x:=c.toNat-48) (y:=d.toNat-48) (by omega) U T;refine⟨⟨fun _=>this,fun _=>?_⟩,⟨fun k=>?_,fun k=>by omega⟩⟩
   ·show(decide (c<d)||_)=true;rw[decide_eq_true (g0.2 h)];rfl
   injection k with k1 k2;rw[k1]at h;omega
  ·obtain rfl:=e.2 h;refine⟨⟨fun k=>?_,fun k=>?_⟩,⟨fun k=>?_,fun k=>?_⟩⟩
   ·have O:(decide (c<c)||(c==c&&Op.bytesLess a b))=true:=k;rw[decide_eq_false (fun q=>by have:=g0.1 q;omega),a1t,a04]at O;have:=z.1 O.2;omega
   ·show(decide (c<c)||(c==c&&Op.bytesLess a b))=true;rw[z.2 (by omega)];simp
   ·injection k with _ k2;have:=A.1 k2;omega
   rw[A.2 (by omega)]
  have:=key (x:=d.toNat-48) (y:=c.toNat-48) (by omega) T U;refine⟨⟨fun k=>?_,fun k=>by omega⟩,⟨fun k=>?_,fun k=>by omega⟩⟩
  ·have O:(decide (c<d)||(c==d&&Op.bytesLess a b))=true:=k;rw[decide_eq_false (fun q=>by have:=g0.1 q;omega),a1t,a04]at O;have:=(beq_iff_eq.1 O.1);rw[this]at h;omega
  injection k with k1 _;rw[k1]at h;omega
theorem dig_eq:dw=bz:=rfl
theorem vn_iff{s:List UInt8}(T:s≠ []):bA s=true↔eg s=true/\val s<=9223372036854775808:=by
 have hl:1<=s.length:=by cases s with|nil=>exact absurd rfl T|cons _ _=>simp
 have Z:s.getD 0 0=s.headD 0:=by cases s<;>rfl
 unfold bA eg;rw[Z,dig_eq];constructor
 ·intro h;simp only[a04,a0V,decide_eq_true_eq]at h⊢;obtain⟨A,O,E⟩:=h;have Y:val s<=9223372036854775808/\s.length<=19:=by
   rcases E with E|⟨E,z⟩
   ·have:=val_lt' (l:=s) A;have U:10^s.length<=10^18:=Nat.pow_le_pow_right (by decide) (by omega);exact⟨by omega,by omega⟩
   have hs:s.length=19:=beq_iff_eq.1 E;obtain⟨k1,k2⟩:=jv s gt hs A (by decide);have e:val gt=9223372036854775808:=by decide
   refine⟨?_,by omega⟩;rcases z with z|z
   ·have:=k1.1 z;omega
   rw[beq_iff_eq.1 z];omega
  exact⟨⟨⟨⟨hl,Y.2⟩,A⟩,O⟩,Y.1⟩
 intro h;simp only[a04,a0V,decide_eq_true_eq]at h⊢;obtain⟨⟨⟨⟨_,U⟩,A⟩,O⟩,E⟩:=h;refine⟨A,O,?_⟩;rcases a0h s.length 19 with z|z
 ·exact .inl z
 have hs:s.length=19:=by omega
 refine .inr ⟨beq_iff_eq.2 hs,?_⟩;obtain⟨k1,k2⟩:=jv s gt hs A (by decide);have e:val gt=9223372036854775808:=by decide
 rcases a0h (val s) 9223372036854775808 with V|V
 ·exact .inl (k1.2 (by omega))
 exact .inr (beq_iff_eq.2 (k2.2 (by omega)))
def TokOK(t:Token):Prop:=(t.kind=1/\fD (t.text.b.headD 0)=true)\/(t.kind=2/\eg t.text.b=true/\val t.text.b<=9223372036854775808)\/(t.kind=3/\fb (t.text.b.headD 0)=false)
def TksOK(ts:List Token):Prop:= ∀i,i<ts.length->TokOK (ts.getD i default)
end Go.Proofs.Ytapgbjedgcpffaa.ph
