/-
Plain laws: what the functions compute answers as the statement says. No condition beyond those that each statement names.
-/
import Derived.Test.YtapgbjedgcpffaaZXPG
noncomputable section
namespace Go.Proofs.Ytapgbjedgcpffaa.ph
open Go.R w1 w3 l1 pt pa pb pc pd pe pf pg
set_option linter.unusedVariables false
set_option linter.unusedSimpArgs false
theorem fold_acc(l:List UInt8): ∀a,l.foldl valA a=a *10^l.length+val l:=by
 induction l with
 |nil=>intro a;show a=a *1+0;omega
 |cons c l ih=>
  intro a
  show l.foldl valA (valA a c)=_
  have e:val (c::l)=l.foldl valA (valA 0 c):=rfl
  rw[ih,e,ih (valA 0 c),a07,a1B]
  unfold valA
  rw[a0C,a0C,Nat.mul_zero,Nat.zero_mul,a0Y,←a0X,Nat.mul_comm (10^l.length) 10,←Nat.mul_assoc,Nat.mul_comm 10 a]
theorem jY(c:UInt8)(l:List UInt8):val (c::l)=(c.toNat-48) *10^l.length+val l:=by show l.foldl valA (valA 0 c)=_;rw[fold_acc];unfold valA;rw[Nat.mul_zero,a0Y]
theorem val_lt'{l:List UInt8}(h:l.all eh=true):val l<10^l.length:=by have:=val_lt (s:=l) l.length (a05 _) (by rw[a17];exact h);rwa [a17]at this
theorem ku{c:UInt8}(h:eh c=true):48<=c.toNat/\c.toNat<=57:=by simp only[eh,a03,decide_eq_true_eq]at h;exact h
theorem iG{a b:UInt8}:a<b↔a.toNat<b.toNat:=UInt8.lt_iff_toNat_lt
theorem kj: ∀(a b:List UInt8),a.length=b.length->a.all eh=true->b.all eh=true->((Op.bytesLess a b=true↔val a<val b)/\(a=b↔val a=val b))
 | [],[],_,_,_=>⟨by constructor<;>(intro h;exact absurd h (by decide)),by simp⟩
 |c::a,d::b,hl,ha,hb=>by
  rw[a0J,a03]at ha hb;have E:a.length=b.length:=by simpa using hl
  obtain⟨z,A⟩:=kj a b E ha.2 hb.2;have V:=val_lt' ha.2;have T:=val_lt' hb.2;have ra:=ku ha.1;have rb:=ku hb.1;rw[jY,jY,←E];rw[←E]at T;have Y:0<10^a.length:=Nat.pos_of_ne_zero (by simp);generalize 10^a.length=p at V T Y⊢;have U: ∀{x y u w:Nat},x<y->u<p->w<p->x *p+u<y *p+w:=by intro x y u w Z hu hw;have:(x+1) *p<=y *p:=a0A p Z;rw[a0C,Nat.one_mul]at this;omega
  have e:(c=d)↔c.toNat=d.toNat:=⟨fun h=>by rw[h],fun h=>UInt8.toNat_inj.1 h⟩
  rcases Nat.lt_trichotomy c.toNat d.toNat with h|h|h
  ·have:=U (x:=c.toNat-48) (y:=d.toNat-48) (by omega) V T;refine⟨⟨fun _=>this,fun _=>?_⟩,⟨fun k=>?_,fun k=>by omega⟩⟩
   ·show(decide (c<d)||_)=true;rw[decide_eq_true (iG.2 h)];rfl
   injection k with k1 k2;rw[k1]at h;omega
  ·obtain rfl:=e.2 h;refine⟨⟨fun k=>?_,fun k=>?_⟩,⟨fun k=>?_,fun k=>?_⟩⟩
   ·have O:(decide (c<c)||(c==c&&Op.bytesLess a b))=true:=k;rw[decide_eq_false (fun q=>by have:=iG.1 q;omega),a1u,a03]at O;have:=z.1 O.2;omega
   ·show(decide (c<c)||(c==c&&Op.bytesLess a b))=true;rw[z.2 (by omega)];simp
   ·injection k with _ k2;have:=A.1 k2;omega
   rw[A.2 (by omega)]
  have:=U (x:=d.toNat-48) (y:=c.toNat-48) (by omega) T V;refine⟨⟨fun k=>?_,fun k=>by omega⟩,⟨fun k=>?_,fun k=>by omega⟩⟩
  ·have O:(decide (c<d)||(c==d&&Op.bytesLess a b))=true:=k;rw[decide_eq_false (fun q=>by have:=iG.1 q;omega),a1u,a03]at O;have:=(beq_iff_eq.1 O.1);rw[this]at h;omega
  injection k with k1 _;rw[k1]at h;omega
theorem dig_eq:eh=br:=rfl
theorem vn_iff{s:List UInt8}(T:s≠ []):ce s=true↔fU s=true/\val s<=9223372036854775808:=by
 have hl:1<=s.length:=by cases s with|nil=>exact absurd rfl T|cons _ _=>simp
 have Z:s.getD 0 0=s.headD 0:=by cases s<;>rfl
 unfold ce fU;rw[Z,dig_eq];constructor
 ·intro h;simp only[a03,a0D,decide_eq_true_eq]at h⊢;obtain⟨A,O,E⟩:=h;have Y:val s<=9223372036854775808/\s.length<=19:=by
   rcases E with E|⟨E,z⟩
   ·have:=val_lt' (l:=s) A;have U:10^s.length<=10^18:=Nat.pow_le_pow_right (by decide) (by omega);exact⟨by omega,by omega⟩
   have hs:s.length=19:=beq_iff_eq.1 E;obtain⟨k1,k2⟩:=kj s gZ hs A (by decide);have e:val gZ=9223372036854775808:=by decide
   refine⟨?_,by omega⟩;rcases z with z|z
   ·have:=k1.1 z;omega
   rw[beq_iff_eq.1 z];omega
  exact⟨⟨⟨⟨hl,Y.2⟩,A⟩,O⟩,Y.1⟩
 intro h;simp only[a03,a0D,decide_eq_true_eq]at h⊢;obtain⟨⟨⟨⟨_,U⟩,A⟩,O⟩,E⟩:=h;refine⟨A,O,?_⟩;rcases a0c s.length 19 with z|z
 ·exact .inl z
 have hs:s.length=19:=by omega
 refine .inr ⟨beq_iff_eq.2 hs,?_⟩;obtain⟨k1,k2⟩:=kj s gZ hs A (by decide);have e:val gZ=9223372036854775808:=by decide
 rcases a0c (val s) 9223372036854775808 with V|V
 ·exact .inl (k1.2 (by omega))
 exact .inr (beq_iff_eq.2 (k2.2 (by omega)))
def TokOK(t:Token):Prop:=(t.kind=1/\cg (t.text.b.headD 0)=true)\/(t.kind=2/\fU t.text.b=true/\val t.text.b<=9223372036854775808)\/(t.kind=3/\aZ (t.text.b.headD 0)=false)
theorem take_head{s:List UInt8}{n:Nat}(h:0<n):(s.take n).headD 0=s.getD 0 0:=by
 cases s with
 |nil=>rw[List.take_nil];rfl
 |cons c s=>obtain⟨m,rfl⟩: ∃m,n=m+1:=⟨n-1,by omega⟩;rfl
theorem gc{s:List UInt8}:(aP s=0->aZ (s.getD 0 0)=false)/\(aP s≠0->aZ (s.getD 0 0)=true):=by
 cases s with
 |nil=>exact⟨fun _=>rfl,fun h=>absurd rfl h⟩
 |cons c s=>
  unfold aP
  rw[a1y]
  show(_->aZ c=false)/\(_->aZ c=true)
  cases aZ c with
  |true=>exact⟨fun h=>absurd h (by simp),fun _=>rfl⟩
  |false=>exact⟨fun _=>rfl,fun h=>absurd rfl h⟩
theorem firstK_ok{s:List UInt8}(z:0<s.length)(h:(ar s).2.2=0)(a:Int):TokOK ⟨(ar s).1,⟨(ar s).2.1⟩,a⟩:=by
 unfold ar at h⊢;split
 ·next w=>
  rw[if_pos w]at h;split
  ·next y=>rw[if_pos y]at h;exact absurd h (by decide)
  next y=>exact .inr (.inr ⟨rfl,by show aZ ((s.take (aL s)).headD 0)=false;rw[take_head (by omega)];exact gc.1 w⟩)
 next w=>
 rw[if_neg w]at h;have E:=fh s;split
 ·next g=>
  rw[if_pos g]at h;split
  ·next y=>
   have A:s.take (aP s)≠ []:=fun e=>by have:=congrArg List.length e;rw[a0q,List.length_nil]at this;omega
   exact .inr (.inl ⟨rfl,(vn_iff A).1 y⟩)
  next y=>rw[if_neg y]at h;exact absurd h (by decide)
 next g=>
 rw[if_neg g]at h;split
 ·next y=>rw[if_pos y]at h;exact absurd h (by decide)
 next y=>
 refine .inl ⟨rfl,?_⟩;show cg ((s.take (aP s)).headD 0)=true;rw[take_head (by omega)];have:=gc.2 w;unfold aZ at this;rw[a0D]at this;exact this.resolve_right g
theorem scan_ok: ∀(f:Nat) (s:List UInt8) (a:Nat),∀t∈(cY f s a).1,TokOK t
 |0,s,a=>fun t h=>by cases h
 |f+1,s,a=>by
  rw[cY];split
  ·next h=>
   split
   ·next e=>
    have z:=scan_ok f s (a+(ar (s.drop a)).2.1.length+spl false (s.drop (a+(ar (s.drop a)).2.1.length)));unfold consT;split
    ·intro t A;rcases a0g.1 A with rfl|A
     ·exact firstK_ok (by rw[a0f];omega) e _
     exact z t A
    exact z
   intro t h;cases h
  intro t h;cases h
def bt(ts:List Token):Prop:= ∀i,i<ts.length->TokOK (ts.getD i default)
theorem scan_tks(s:List UInt8):bt (av s).1:=by
 intro i hi;rw[a08,a09 hi];have h:(av s).1[i]∈(av s).1:=a0w hi;show TokOK (av s).1[i];revert h;generalize (av s).1[i]=t;intro h;unfold av at h;split at h
 ·cases h
 exact scan_ok _ _ _ t h
end Go.Proofs.Ytapgbjedgcpffaa.ph
