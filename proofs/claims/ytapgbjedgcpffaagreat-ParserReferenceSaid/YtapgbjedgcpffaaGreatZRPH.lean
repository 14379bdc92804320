/-
Plain laws: what the functions compute answers as the statement says. No condition beyond those that each statement names.
-/
import Derived.Test.YtapgbjedgcpffaaGreatZRPG
noncomputable section
namespace Go.Proofs.YtapgbjedgcpffaaGreat.ph
open Go.R w1 w3 l1 pt pa pb pc pd pe pf pg
set_option linter.unusedVariables false
set_option linter.unusedSimpArgs false
theorem fold_acc(l:List UInt8): ∀a,l.foldl valA a=a *10^l.length+val l:=by
 induction l with
 |nil=>intro a;show a=a *1+0;omega
 |cons c l ih=>
  intro a
  show l.foldl valA (valA a c)=_
  have e:val (c::l)=l.foldl valA (valA 0 c):=rfl
  rw[ih,e,ih (valA 0 c),a02,a1H]
  unfold valA
  rw[a0N,a0N,Nat.mul_zero,Nat.zero_mul,a0A,←a12,Nat.mul_comm (10^l.length) 10,←Nat.mul_assoc,Nat.mul_comm 10 a]
theorem m4(c:UInt8)(l:List UInt8):val (c::l)=(c.toNat-48) *10^l.length+val l:=by show l.foldl valA (valA 0 c)=_;rw[fold_acc];unfold valA;rw[Nat.mul_zero,a0A]
theorem val_lt'{l:List UInt8}(h:l.all fy=true):val l<10^l.length:=by have:=val_lt (s:=l) l.length (a07 _) (by rw[a1e];exact h);rwa [a1e]at this
theorem nG{c:UInt8}(h:fy c=true):48<=c.toNat/\c.toNat<=57:=by simp only[fy,a03,decide_eq_true_eq]at h;exact h
theorem lh{a b:UInt8}:a<b↔a.toNat<b.toNat:=UInt8.lt_iff_toNat_lt
theorem nw: ∀(a b:List UInt8),a.length=b.length->a.all fy=true->b.all fy=true->((Op.bytesLess a b=true↔val a<val b)/\(a=b↔val a=val b))
 | [],[],_,_,_=>⟨by constructor<;>(intro h;exact absurd h e_),by simp⟩
 |c::a,d::b,hl,ha,hb=>by
  rw[a0o,a03]at ha hb;have T:a.length=b.length:=by simpa using hl
  obtain⟨E,O⟩:=nw a b T ha.2 hb.2;have Z:=val_lt' ha.2;have Y:=val_lt' hb.2;have ra:=nG ha.1;have rb:=nG hb.1;rw[m4,m4,←T];rw[←T]at Y;have hp:0<10^a.length:=Nat.pos_of_ne_zero (by simp);generalize 10^a.length=p at Z Y hp⊢;have key: ∀{x y u w:Nat},x<y->u<p->w<p->x *p+u<y *p+w:=by intro x y u w hx hu hw;have:(x+1) *p<=y *p:=a0y p hx;rw[a0N,Nat.one_mul]at this;omega
  have e:(c=d)↔c.toNat=d.toNat:=⟨fun h=>by rw[h],fun h=>UInt8.toNat_inj.1 h⟩
  rcases Nat.lt_trichotomy c.toNat d.toNat with h|h|h
  ·have:=key (x:=c.toNat-48) (y:=d.toNat-48) M Z Y;refine⟨⟨fun _=>this,fun _=>?_⟩,⟨fun k=>?_,fun k=>by omega⟩⟩
   ·show(decide (c<d)||_)=true;rw[decide_eq_true (lh.2 h)];rfl
   injection k with k1 k2;rw[k1]at h;omega
  ·obtain rfl:=e.2 h;refine⟨⟨fun k=>?_,fun k=>?_⟩,⟨fun k=>?_,fun k=>?_⟩⟩
   ·have U:(decide (c<c)||(c==c&&Op.bytesLess a b))=true:=k;rw[decide_eq_false (fun q=>by have:=lh.1 q;omega),a1P,a03]at U;have:=E.1 U.2;omega
   ·show(decide (c<c)||(c==c&&Op.bytesLess a b))=true;rw[E.2 M];simp
   ·injection k with _ k2;have:=O.1 k2;omega
   rw[O.2 M]
  have:=key (x:=d.toNat-48) (y:=c.toNat-48) M Y Z;refine⟨⟨fun k=>?_,fun k=>by omega⟩,⟨fun k=>?_,fun k=>by omega⟩⟩
  ·have U:(decide (c<d)||(c==d&&Op.bytesLess a b))=true:=k;rw[decide_eq_false (fun q=>by have:=lh.1 q;omega),a1P,a03]at U;have:=(beq_iff_eq.1 U.1);rw[this]at h;omega
  injection k with k1 _;rw[k1]at h;omega
theorem dig_eq:fy=bo:=rfl
theorem vn_iff{s:List UInt8}(Y:s≠ []):da s=true↔iN s=true/\val s<=9223372036854775808:=by
 have hl:1<=s.length:=by cases s with|nil=>exact absurd rfl Y|cons _ _=>simp
 have hd:s.getD 0 0=s.headD 0:=by cases s<;>rfl
 unfold da iN;rw[hd,dig_eq];constructor
 ·intro h;simp only[a03,a0C,decide_eq_true_eq]at h⊢;obtain⟨O,U,T⟩:=h;have hv:val s<=9223372036854775808/\s.length<=19:=by
   rcases T with T|⟨T,E⟩
   ·have:=val_lt' (l:=s) O;have Z:10^s.length<=10^18:=Nat.pow_le_pow_right e_ M;exact⟨by omega,by omega⟩
   have hs:s.length=19:=beq_iff_eq.1 T;obtain⟨k1,k2⟩:=nw s j9 hs O e_;have e:val j9=9223372036854775808:=by decide
   refine⟨?_,by omega⟩;rcases E with E|E
   ·have:=k1.1 E;omega
   rw[beq_iff_eq.1 E];omega
  exact⟨⟨⟨⟨hl,hv.2⟩,O⟩,U⟩,hv.1⟩
 intro h;simp only[a03,a0C,decide_eq_true_eq]at h⊢;obtain⟨⟨⟨⟨_,Z⟩,O⟩,U⟩,T⟩:=h;refine⟨O,U,?_⟩;rcases a0c s.length 19 with E|E
 ·exact .inl E
 have hs:s.length=19:=M
 refine .inr ⟨beq_iff_eq.2 hs,?_⟩;obtain⟨k1,k2⟩:=nw s j9 hs O e_;have e:val j9=9223372036854775808:=by decide
 rcases a0c (val s) 9223372036854775808 with h6|h6
 ·exact .inl (k1.2 M)
 exact .inr (beq_iff_eq.2 (k2.2 M))
def TokOK(t:Token):Prop:=(t.kind=1/\bT (t.text.b.headD 0)=true)\/(t.kind=2/\iN t.text.b=true/\val t.text.b<=9223372036854775808)\/(t.kind=3/\aR (t.text.b.headD 0)=false)
theorem take_head{s:List UInt8}{n:Nat}(h:0<n):(s.take n).headD 0=s.getD 0 0:=by
 cases s with
 |nil=>rw[List.take_nil];rfl
 |cons c s=>obtain⟨m,rfl⟩: ∃m,n=m+1:=⟨n-1,by omega⟩;rfl
theorem i0{s:List UInt8}:(aW s=0->aR (s.getD 0 0)=false)/\(aW s≠0->aR (s.getD 0 0)=true):=by
 cases s with
 |nil=>exact⟨fun _=>rfl,fun h=>absurd V h⟩
 |cons c s=>
  unfold aW
  rw[a1R]
  show(_->aR c=false)/\(_->aR c=true)
  cases aR c with
  |true=>exact⟨fun h=>absurd h (by simp),fun _=>rfl⟩
  |false=>exact⟨fun _=>rfl,fun h=>absurd V h⟩
theorem firstK_ok{s:List UInt8}(E:0<s.length)(h:(aF s).2.2=0)(a:Int):TokOK ⟨(aF s).1,⟨(aF s).2.1⟩,a⟩:=by
 unfold aF at h⊢;split
 ·next w=>
  rw[if_pos w]at h;split
  ·next y=>rw[if_pos y]at h;exact absurd h e_
  next y=>exact .inr (.inr ⟨V,by show aR ((s.take (aV s)).headD 0)=false;rw[take_head M];exact i0.1 w⟩)
 next w=>
 rw[if_neg w]at h;have T:=ia s;split
 ·next g=>
  rw[if_pos g]at h;split
  ·next y=>
   have O:s.take (aW s)≠ []:=fun e=>by have:=congrArg List.length e;rw[a0d,List.length_nil]at this;omega
   exact .inr (.inl ⟨V,(vn_iff O).1 y⟩)
  next y=>rw[if_neg y]at h;exact absurd h e_
 next g=>
 rw[if_neg g]at h;split
 ·next y=>rw[if_pos y]at h;exact absurd h e_
 next y=>
 refine .inl ⟨V,?_⟩;show bT ((s.take (aW s)).headD 0)=true;rw[take_head M];have:=i0.2 w;unfold aR at this;rw[a0C]at this;exact this.resolve_right g
theorem scan_ok: ∀(f:Nat) (s:List UInt8) (a:Nat),∀t∈(dX f s a).1,TokOK t
 |0,s,a=>fun t h=>by cases h
 |f+1,s,a=>by
  rw[dX];split
  ·next h=>
   split
   ·next e=>
    have E:=scan_ok f s (a+(aF (s.drop a)).2.1.length+spl false (s.drop (a+(aF (s.drop a)).2.1.length)));unfold consT;split
    ·intro t O;rcases a0m.1 O with rfl|O
     ·exact firstK_ok (by rw[a0a];omega) e _
     exact E t O
    exact E
   intro t h;cases h
  intro t h;cases h
def du(ts:List Token):Prop:= ∀i,i<ts.length->TokOK (ts.getD i default)
theorem gi(s:List UInt8):du (aL s).1:=by
 intro i hi;rw[a08,a09 hi];have h:(aL s).1[i]∈(aL s).1:=a0E hi;show TokOK (aL s).1[i];revert h;generalize (aL s).1[i]=t;intro h;unfold aL at h;split at h
 ·cases h
 exact scan_ok _ _ _ t h
end Go.Proofs.YtapgbjedgcpffaaGreat.ph
