/-
Ascending lists of live registers: unions, differences, bounds, plain laws. No condition beyond those that each statement names.
-/
import Derived.Test.YtgdggmlghemecaaDoorZAMD
noncomputable section
namespace Go.Proofs.YtgdggmlghemecaaDoor.mf
open Go.R
set_option maxRecDepth 10000
set_option linter.unusedVariables false
set_option linter.unusedSimpArgs false
open m1 m2 m3 m4 m5 m6 ma ml mb mc md
theorem lin_lt{c:VFnT}(v:VF c){b r:Nat}(h:LIn c b r):(r:Int)<c.regs:=by
 refine h (fun _ r=>(r:Int)<c.regs) fun b N r z=>?_
 have key: ∀(l:List VInT),(∀w∈l,fO c.params c.regs w=true)->∀r,tr l (endS (bh c b) (outS c (fun _ r=>(r:Int)<c.regs) b)) r->(r:Int)<c.regs:=by
  intro l;induction l with
  |nil=>
   intro _ r z
   rcases z with⟨t,_,A⟩|A
   ·exact A
   unfold ei at A
   split at A
   ·rename_i T;rw[a0f]at A;have:=v.fin b N T;omega
   cases A
  |cons w l ih=>
   intro E r z
   rcases z with z|z
   ·exact((bx (E w (a0G ..))).1 _ z).2
   exact ih (fun x U=>E x (a0i _ U)) r z.1
 refine key _ (fun w E=>?_) r z;obtain⟨i,hi,rfl⟩:=a0K.1 E;have:=v.ins b N i hi;rwa [a03,a05 hi]at this
theorem iO{c:VFnT}(v:VF c){b r:Nat}(h:lR c b r):(r:Int)<c.regs:=by obtain⟨t,_,A⟩:=h;exact lin_lt v A
theorem tr_lt{c:VFnT}(v:VF c){b:Nat}(E:b<c.blocks.length): ∀(l:List VInT),(∀w∈l,w∈(bh c b).ins)->∀r,tr l (endS (bh c b) (lR c b)) r->(r:Int)<c.regs:=by
 intro l;induction l with
 |nil=>
  intro _ r z
  rcases z with A|A
  ·exact iO v A
  unfold ei at A
  split at A
  ·rename_i U;rw[a0f]at A;have:=v.fin b E U;omega
  cases A
 |cons w l ih=>
  intro N r z
  rcases z with z|z
  ·obtain⟨i,hi,T⟩:=a0K.1 (N w (a0G ..));have:=v.ins b E i hi;rw[a03,a05 hi,a0Q,T]at this;exact((bx this).1 _ z).2
  exact ih (fun x Z=>N x (a0i _ Z)) r z.1
theorem eB{c:VFnT}(v:VF c){b i r:Nat}(z:b<c.blocks.length)(h:ptS c b i r):(r:Int)<c.regs:=tr_lt v z _ (fun w A=>a2f A) r h
theorem kH{m:Int}: ∀{l:List Int} (lo:Int),lo<=m->Asc l->(∀x∈l,lo<=x/\x<m)->(l.length:Int)<=m-lo
 | [],lo,h,_,_=>by simp;omega
 |x::l,lo,_,ha,hb=>by
  have A:=List.pairwise_cons.1 ha;have E:=hb x (a0G ..);have:=kH (l:=l) (x+1) M A.2 fun y z=>⟨by have:=A.1 y z;omega,(hb y (a0i _ z)).2⟩
  rw[a0a];omega
theorem Lst.len{l:List Int}{S:Nat->Prop}{m:Int}(h:Lst l S)(N:0<=m)(z: ∀r,S r->(r:Int)<m):(l.length:Int)<=m:=by
 have:=kH 0 N h.asc fun x T=>by obtain⟨A,E⟩:=(h.mem x).1 T;have:=z _ E;exact⟨A,by omega⟩
 omega
theorem Lst.nil{S:Nat->Prop}(h: ∀r,¬S r):Lst [] S:=⟨List.Pairwise.nil,fun x=>⟨fun z=>(by cases z),fun z=>absurd z.2 (h _)⟩⟩
theorem Lst.addL{a l:List Int}{S:Nat->Prop}(h:Lst a S)(z: ∀x∈l,0<=x):Lst (da a l) (fun r=>S r\/(r:Int)∈l):=⟨uni_asc h.asc,fun x=>by
 rw[uni_mem,h.mem];constructor
 ·rintro(A|A)
  ·exact⟨A.1,.inl A.2⟩
  have:=z x A;exact⟨this,.inr (by rw[show((x.toNat:Nat):Int)=x by omega];exact A)⟩
 rintro⟨A,E|E⟩
 ·exact .inl ⟨A,E⟩
 exact .inr (by rwa [show((x.toNat:Nat):Int)=x by omega]at E)⟩
theorem Lst.union{a l:List Int}{S S':Nat->Prop}(h:Lst a S)(k:Lst l S'):Lst (da a l) (fun r=>S r\/S' r):=by
 have N:=Lst.addL (l:=l) h fun x z=>((k.mem x).1 z).1
 refine⟨N.asc,fun x=>?_⟩;rw[N.mem];constructor
 ·rintro⟨E,A|A⟩
  ·exact⟨E,.inl A⟩
  exact⟨E,.inr (((k.mem _).1 A).2)⟩
 rintro⟨E,A|A⟩
 ·exact⟨E,.inl A⟩
 exact⟨E,.inr ((k.mem _).2 ⟨by omega,A⟩)⟩
theorem aM{l:List Int}{n:Int}:bS l n=true↔n∈l:=by
 unfold bS;rw[List.any_eq_true];constructor
 ·rintro⟨x,A,E⟩;have:=of_decide_eq_true E;subst this;exact A
 exact fun h=>⟨n,h,decide_eq_true V⟩
theorem Lst.minus{a w:List Int}{S:Nat->Prop}(h:Lst a S):Lst (gE a w) (fun r=>S r/\(r:Int)∉w):=⟨h.asc.sublist List.filter_sublist,fun x=>by
 unfold gE;rw[a1X,h.mem];simp only[a0B,a1B,ne_eq,aM];constructor
 ·rintro⟨⟨A,E⟩,N⟩;exact⟨A,E,by rw[show((x.toNat:Nat):Int)=x by omega];exact N⟩
 rintro⟨A,E,N⟩;exact⟨⟨A,E⟩,by rwa [show((x.toNat:Nat):Int)=x by omega]at N⟩⟩
def enS(c:VFnT)(b q:Nat)(r:Nat):Prop:= ∃t∈(bo (bh c b)).take q,LIn c t.toNat r
theorem pt_in{c:VFnT}{b:Nat}(z:b<c.blocks.length)(r:Nat):ptS c b 0 r↔LIn c b r:=by rw[LIn_iff z];exact Iff.rfl
end Go.Proofs.YtgdggmlghemecaaDoor.mf
