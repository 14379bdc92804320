/-
Ascending lists of live registers: unions, differences, bounds, plain laws. No condition beyond those that each statement names.
-/
import Derived.Test.YtknafdcgpaejlaaDoorZMMD
noncomputable section
namespace Go.Proofs.YtknafdcgpaejlaaDoor.mf
open Go.R
set_option maxRecDepth 10000
set_option linter.unusedVariables false
set_option linter.unusedSimpArgs false
open m1 m2 m3 m4 m5 m6 ma ml mb mc md
theorem lin_lt{c:VFnT}(v:VF c){b r:Nat}(h:LIn c b r):(r:Int)<c.regs:=by
 refine h (fun _ r=>(r:Int)<c.regs) fun b T r E=>?_
 have U: ∀(l:List VInT),(∀w∈l,eX c.params c.regs w=true)->∀r,tr l (endS (aW c b) (outS c (fun _ r=>(r:Int)<c.regs) b)) r->(r:Int)<c.regs:=by
  intro l;induction l with
  |nil=>
   intro _ r E
   rcases E with⟨t,_,A⟩|A
   ·exact A
   unfold dr at A
   split at A
   ·rename_i V;rw[a0h]at A;have:=v.fin b T V;omega
   cases A
  |cons w l ih=>
   intro N r E
   rcases E with E|E
   ·exact((bu (N w (a0y ..))).1 _ E).2
   exact ih (fun x Z=>N x (a0j _ Z)) r E.1
 refine U _ (fun w N=>?_) r E;obtain⟨i,hi,rfl⟩:=a0E.1 N;have:=v.ins b T i hi;rwa [a02,a06 hi]at this
theorem gU{c:VFnT}(v:VF c){b r:Nat}(h:kw c b r):(r:Int)<c.regs:=by obtain⟨t,_,A⟩:=h;exact lin_lt v A
theorem tr_lt{c:VFnT}(v:VF c){b:Nat}(N:b<c.blocks.length): ∀(l:List VInT),(∀w∈l,w∈(aW c b).ins)->∀r,tr l (endS (aW c b) (kw c b)) r->(r:Int)<c.regs:=by
 intro l;induction l with
 |nil=>
  intro _ r E
  rcases E with A|A
  ·exact gU v A
  unfold dr at A
  split at A
  ·rename_i V;rw[a0h]at A;have:=v.fin b N V;omega
  cases A
 |cons w l ih=>
  intro T r E
  rcases E with E|E
  ·obtain⟨i,hi,U⟩:=a0E.1 (T w (a0y ..));have:=v.ins b N i hi;rw[a02,a06 hi,a0P,U]at this;exact((bu this).1 _ E).2
  exact ih (fun x Z=>T x (a0j _ Z)) r E.1
theorem eZ{c:VFnT}(v:VF c){b i r:Nat}(A:b<c.blocks.length)(h:ptS c b i r):(r:Int)<c.regs:=tr_lt v A _ (fun w E=>a26 E) r h
theorem jE{m:Int}: ∀{l:List Int} (lo:Int),lo<=m->Asc l->(∀x∈l,lo<=x/\x<m)->(l.length:Int)<=m-lo
 | [],lo,h,_,_=>by simp;omega
 |x::l,lo,_,ha,hb=>by
  have A:=a1C.1 ha;have E:=hb x (a0y ..);have:=jE (l:=l) (x+1) (by omega) A.2 fun y N=>⟨by have:=A.1 y N;omega,(hb y (a0j _ N)).2⟩
  rw[a09];omega
theorem Lst.len{l:List Int}{S:Nat->Prop}{m:Int}(h:Lst l S)(T:0<=m)(N: ∀r,S r->(r:Int)<m):(l.length:Int)<=m:=by
 have:=jE 0 T h.asc fun x U=>by obtain⟨A,E⟩:=(h.mem x).1 U;have:=N _ E;exact⟨A,by omega⟩
 omega
theorem Lst.nil{S:Nat->Prop}(h: ∀r,¬S r):Lst [] S:=⟨List.Pairwise.nil,fun x=>⟨fun A=>(by cases A),fun A=>absurd A.2 (h _)⟩⟩
theorem Lst.addL{a l:List Int}{S:Nat->Prop}(h:Lst a S)(N: ∀x∈l,0<=x):Lst (cJ a l) (fun r=>S r\/(r:Int)∈l):=⟨uni_asc h.asc,fun x=>by
 rw[kH,h.mem];constructor
 ·rintro(A|A)
  ·exact⟨A.1,.inl A.2⟩
  have:=N x A;exact⟨this,.inr (by rw[show((x.toNat:Nat):Int)=x by omega];exact A)⟩
 rintro⟨A,E|E⟩
 ·exact .inl ⟨A,E⟩
 exact .inr (by rwa [show((x.toNat:Nat):Int)=x by omega]at E)⟩
theorem Lst.union{a l:List Int}{S S':Nat->Prop}(h:Lst a S)(k:Lst l S'):Lst (cJ a l) (fun r=>S r\/S' r):=by
 have N:=Lst.addL (l:=l) h fun x T=>((k.mem x).1 T).1
 refine⟨N.asc,fun x=>?_⟩;rw[N.mem];constructor
 ·rintro⟨E,A|A⟩
  ·exact⟨E,.inl A⟩
  exact⟨E,.inr (((k.mem _).1 A).2)⟩
 rintro⟨E,A|A⟩
 ·exact⟨E,.inl A⟩
 exact⟨E,.inr ((k.mem _).2 ⟨by omega,A⟩)⟩
theorem fW{l:List Int}{n:Int}:im l n=true↔n∈l:=by
 unfold im;rw[List.any_eq_true];constructor
 ·rintro⟨x,A,E⟩;have:=of_decide_eq_true E;subst this;exact A
 exact fun h=>⟨n,h,decide_eq_true rfl⟩
theorem Lst.minus{a w:List Int}{S:Nat->Prop}(h:Lst a S):Lst (bZ a w) (fun r=>S r/\(r:Int)∉w):=⟨h.asc.sublist List.filter_sublist,fun x=>by
 unfold bZ;rw[a1E,h.mem];simp only[a0F,a1n,ne_eq,fW];constructor
 ·rintro⟨⟨A,E⟩,N⟩;exact⟨A,E,by rw[show((x.toNat:Nat):Int)=x by omega];exact N⟩
 rintro⟨A,E,N⟩;exact⟨⟨A,E⟩,by rwa [show((x.toNat:Nat):Int)=x by omega]at N⟩⟩
def enS(c:VFnT)(b q:Nat)(r:Nat):Prop:= ∃t∈(bh (aW c b)).take q,LIn c t.toNat r
theorem pt_in{c:VFnT}{b:Nat}(A:b<c.blocks.length)(r:Nat):ptS c b 0 r↔LIn c b r:=by rw[LIn_iff A];exact Iff.rfl
end Go.Proofs.YtknafdcgpaejlaaDoor.mf
