/-
Plain laws: what the functions compute answers as the statement says. No condition beyond those that each statement names.
-/
import Derived.Test.YtkpgbdkkgcdhmaaGreatZPPG
noncomputable section
namespace Go.Proofs.YtkpgbdkkgcdhmaaGreat.ph
open Go.R w1 w3 l1 pt pa pb pc pd pe pf pg
set_option linter.unusedVariables false
set_option linter.unusedSimpArgs false
theorem fold_acc(l:List UInt8): ∀a,l.foldl valA a=a *10^l.length+val l:=by
 induction l with
 |nil=>intro a;show a=a *1+0;omega
 |cons c l ih=>
  intro a
  show l.foldl valA (valA a c)=_
  have e:val (c::l)=l.foldl valA (valA 0 c):=rfl
  rw[ih,e,ih (valA 0 c),a03,a1K]
  unfold valA
  rw[a0U,a0U,Nat.mul_zero,Nat.zero_mul,a0R,←a0A,Nat.mul_comm (10^l.length) 10,←Nat.mul_assoc,Nat.mul_comm 10 a]
theorem val_cons(c:UInt8)(l:List UInt8):val (c::l)=(c.toNat-48) *10^l.length+val l:=by show l.foldl valA (valA 0 c)=_;rw[fold_acc];unfold valA;rw[Nat.mul_zero,a0R]
theorem val_lt'{l:List UInt8}(h:l.all eD=true):val l<10^l.length:=by have:=val_lt (s:=l) l.length (a06 _) (by rw[a0W];exact h);rwa [a0W]at this
theorem dig_rng{c:UInt8}(h:eD c=true):48<=c.toNat/\c.toNat<=57:=by simp only[eD,a02,decide_eq_true_eq]at h;exact h
theorem jO{a b:UInt8}:a<b↔a.toNat<b.toNat:=UInt8.lt_iff_toNat_lt
theorem lZ: ∀(a b:List UInt8),a.length=b.length->a.all eD=true->b.all eD=true->((Op.bytesLess a b=true↔val a<val b)/\(a=b↔val a=val b))
 | [],[],_,_,_=>⟨by constructor<;>(intro h;exact absurd h (by decide)),by simp⟩
 |c::a,d::b,hl,ha,hb=>by
  rw[a0s,a02]at ha hb;have O:a.length=b.length:=by simpa using hl
  obtain⟨A,E⟩:=lZ a b O ha.2 hb.2;have V:=val_lt' ha.2;have U:=val_lt' hb.2;have ra:=dig_rng ha.1;have rb:=dig_rng hb.1;rw[val_cons,val_cons,←O];rw[←O]at U;have Y:0<10^a.length:=Nat.pos_of_ne_zero (by simp);generalize 10^a.length=p at V U Y⊢;have key: ∀{x y u w:Nat},x<y->u<p->w<p->x *p+u<y *p+w:=by intro x y u w Z hu hw;have:(x+1) *p<=y *p:=a0y p Z;rw[a0U,Nat.one_mul]at this;omega
  have e:(c=d)↔c.toNat=d.toNat:=⟨fun h=>by rw[h],fun h=>UInt8.toNat_inj.1 h⟩
  rcases Nat.lt_trichotomy c.toNat d.toNat with h|h|h
  ·have:=key (x:=c.toNat-48) (y:=d.toNat-48) (by omega) V U;refine⟨⟨fun _=>this,fun _=>?_⟩,⟨fun k=>?_,fun k=>by omega⟩⟩
   ·show(decide (c<d)||_)=true;rw[decide_eq_true (jO.2 h)];rfl
   injection k with k1 k2;rw[k1]at h;omega
  ·obtain rfl:=e.2 h;refine⟨⟨fun k=>?_,fun k=>?_⟩,⟨fun k=>?_,fun k=>?_⟩⟩
   ·have T:(decide (c<c)||(c==c&&Op.bytesLess a b))=true:=k;rw[decide_eq_false (fun q=>by have:=jO.1 q;omega),a0Y,a02]at T;have:=A.1 T.2;omega
   ·show(decide (c<c)||(c==c&&Op.bytesLess a b))=true;rw[A.2 (by omega)];simp
   ·injection k with _ k2;have:=E.1 k2;omega
   rw[E.2 (by omega)]
  have:=key (x:=d.toNat-48) (y:=c.toNat-48) (by omega) U V;refine⟨⟨fun k=>?_,fun k=>by omega⟩,⟨fun k=>?_,fun k=>by omega⟩⟩
  ·have T:(decide (c<d)||(c==d&&Op.bytesLess a b))=true:=k;rw[decide_eq_false (fun q=>by have:=jO.1 q;omega),a0Y,a02]at T;have:=(beq_iff_eq.1 T.1);rw[this]at h;omega
  injection k with k1 _;rw[k1]at h;omega
theorem dig_eq:eD=bH:=rfl
theorem vn_iff{s:List UInt8}(U:s≠ []):cw s=true↔iJ s=true/\val s<=9223372036854775808:=by
 have hl:1<=s.length:=by cases s with|nil=>exact absurd rfl U|cons _ _=>simp
 have hd:s.getD 0 0=s.headD 0:=by cases s<;>rfl
 unfold cw iJ;rw[hd,dig_eq];constructor
 ·intro h;simp only[a02,a0P,decide_eq_true_eq]at h⊢;obtain⟨E,T,O⟩:=h;have Z:val s<=9223372036854775808/\s.length<=19:=by
   rcases O with O|⟨O,A⟩
   ·have:=val_lt' (l:=s) E;have V:10^s.length<=10^18:=Nat.pow_le_pow_right (by decide) (by omega);exact⟨by omega,by omega⟩
   have hs:s.length=19:=beq_iff_eq.1 O;obtain⟨k1,k2⟩:=lZ s iY hs E (by decide);have e:val iY=9223372036854775808:=by decide
   refine⟨?_,by omega⟩;rcases A with A|A
   ·have:=k1.1 A;omega
   rw[beq_iff_eq.1 A];omega
  exact⟨⟨⟨⟨hl,Z.2⟩,E⟩,T⟩,Z.1⟩
 intro h;simp only[a02,a0P,decide_eq_true_eq]at h⊢;obtain⟨⟨⟨⟨_,V⟩,E⟩,T⟩,O⟩:=h;refine⟨E,T,?_⟩;rcases a0k s.length 19 with A|A
 ·exact .inl A
 have hs:s.length=19:=by omega
 refine .inr ⟨beq_iff_eq.2 hs,?_⟩;obtain⟨k1,k2⟩:=lZ s iY hs E (by decide);have e:val iY=9223372036854775808:=by decide
 rcases a0k (val s) 9223372036854775808 with Y|Y
 ·exact .inl (k1.2 (by omega))
 exact .inr (beq_iff_eq.2 (k2.2 (by omega)))
def TokOK(t:Token):Prop:=(t.kind=1/\eC (t.text.b.headD 0)=true)\/(t.kind=2/\iJ t.text.b=true/\val t.text.b<=9223372036854775808)\/(t.kind=3/\bG (t.text.b.headD 0)=false)
theorem word_head{s:List UInt8}:(aE s=0->bG (s.getD 0 0)=false)/\(aE s≠0->bG (s.getD 0 0)=true):=by
 cases s with
 |nil=>exact⟨fun _=>rfl,fun h=>absurd rfl h⟩
 |cons c s=>
  unfold aE
  rw[a1d]
  show(_->bG c=false)/\(_->bG c=true)
  cases bG c with
  |true=>exact⟨fun h=>absurd h (by simp),fun _=>rfl⟩
  |false=>exact⟨fun _=>rfl,fun h=>absurd rfl h⟩
def TksOK(ts:List Token):Prop:= ∀i,i<ts.length->TokOK (ts.getD i default)
end Go.Proofs.YtkpgbdkkgcdhmaaGreat.ph
