/-
 Ascending lists of live registers: unions, differences, bounds, plain laws. No condition beyond those that each statement names.
-/
import Derived.Test.YtknafdcgpaejlaaDoorZLMD
noncomputable section
namespace Go.Proofs.YtknafdcgpaejlaaDoor.mf
open Go.R
set_option maxRecDepth 10000
set_option linter.unusedVariables false
set_option linter.unusedSimpArgs false
open m1 m2 m3 m4 m5 m6 ma ml mb mc md
theorem lin_lt{c:VFnT}(v:VF c){b r:Nat}(h:LIn c b r):(r:Int)<c.regs:=by
 refine h (fun _ r=>(r:Int)<c.regs) fun b hb r hr=>?_
 have key: ∀(l:List VInT),(∀w∈l,eT c.params c.regs w=true)->∀r,tr l (endS (bB c b) (outS c (fun _ r=>(r:Int)<c.regs) b)) r->(r:Int)<c.regs:=by
  intro l;induction l with
  |nil=>
   intro _ r hr
   rcases hr with⟨t,_,A⟩|A
   ·exact A
   unfold dp at A
   split at A
   ·rename_i hf;rw[a0f]at A;have:=v.fin b hb hf;omega
   cases A
  |cons w l ih=>
   intro hw r hr
   rcases hr with hr|hr
   ·exact((bE (hw w (a0z ..))).1 _ hr).2
   exact ih (fun x hx=>hw x (a0j _ hx)) r hr.1
 refine key _ (fun w hw=>?_) r hr;obtain⟨i,hi,rfl⟩:=a0x.1 hw;have:=v.ins b hb i hi;rwa [a02,a04 hi]at this
theorem gU{c:VFnT}(v:VF c){b r:Nat}(h:ku c b r):(r:Int)<c.regs:=by obtain⟨t,_,A⟩:=h;exact lin_lt v A
theorem tr_lt{c:VFnT}(v:VF c){b:Nat}(hb:b<c.blocks.length): ∀(l:List VInT),(∀w∈l,w∈(bB c b).ins)->∀r,tr l (endS (bB c b) (ku c b)) r->(r:Int)<c.regs:=by
 intro l;induction l with
 |nil=>
  intro _ r hr
  rcases hr with A|A
  ·exact gU v A
  unfold dp at A
  split at A
  ·rename_i hf;rw[a0f]at A;have:=v.fin b hb hf;omega
  cases A
 |cons w l ih=>
  intro hw r hr
  rcases hr with hr|hr
  ·obtain⟨i,hi,he⟩:=a0x.1 (hw w (a0z ..));have:=v.ins b hb i hi;rw[a02,a04 hi,a0I,he]at this;exact((bE this).1 _ hr).2
  exact ih (fun x hx=>hw x (a0j _ hx)) r hr.1
theorem gr{c:VFnT}(v:VF c){b i r:Nat}(hb:b<c.blocks.length)(h:ptS c b i r):(r:Int)<c.regs:=tr_lt v hb _ (fun w hw=>a21 hw) r h
theorem jD{m:Int}: ∀{l:List Int} (lo:Int),lo<=m->Asc l->(∀x∈l,lo<=x/\x<m)->(l.length:Int)<=m-lo
 | [],lo,h,_,_=>by simp;omega
 |x::l,lo,_,ha,hb=>by
  have A:=List.pairwise_cons.1 ha;have E:=hb x (a0z ..);have:=jD (l:=l) (x+1) (by omega) A.2 fun y hy=>⟨by have:=A.1 y hy;omega,(hb y (a0j _ hy)).2⟩
  rw[a0a];omega
theorem Lst.len{l:List Int}{S:Nat->Prop}{m:Int}(h:Lst l S)(hm:0<=m)(hb: ∀r,S r->(r:Int)<m):(l.length:Int)<=m:=by
 have:=jD 0 hm h.asc fun x hx=>by obtain⟨A,E⟩:=(h.mem x).1 hx;have:=hb _ E;exact⟨A,by omega⟩
 omega
theorem Lst.nil{S:Nat->Prop}(h: ∀r,¬S r):Lst [] S:=⟨List.Pairwise.nil,fun x=>⟨fun hx=>(by cases hx),fun hx=>absurd hx.2 (h _)⟩⟩
theorem Lst.addL{a l:List Int}{S:Nat->Prop}(h:Lst a S)(hl: ∀x∈l,0<=x):Lst (cF a l) (fun r=>S r\/(r:Int)∈l):=⟨uni_asc h.asc,fun x=>by
 rw[uni_mem,h.mem];constructor
 ·rintro(A|A)
  ·exact⟨A.1,.inl A.2⟩
  have:=hl x A;exact⟨this,.inr (by rw[show((x.toNat:Nat):Int)=x by omega];exact A)⟩
 rintro⟨A,E|E⟩
 ·exact .inl ⟨A,E⟩
 exact .inr (by rwa [show((x.toNat:Nat):Int)=x by omega]at E)⟩
theorem Lst.union{a l:List Int}{S S':Nat->Prop}(h:Lst a S)(k:Lst l S'):Lst (cF a l) (fun r=>S r\/S' r):=by
 have J:=Lst.addL (l:=l) h fun x hx=>((k.mem x).1 hx).1
 refine⟨J.asc,fun x=>?_⟩;rw[J.mem];constructor
 ·rintro⟨E,A|A⟩
  ·exact⟨E,.inl A⟩
  exact⟨E,.inr (((k.mem _).1 A).2)⟩
 rintro⟨E,A|A⟩
 ·exact⟨E,.inl A⟩
 exact⟨E,.inr ((k.mem _).2 ⟨by omega,A⟩)⟩
theorem jz{l:List Int}{n:Int}:gi l n=true↔n∈l:=by
 unfold gi;rw[List.any_eq_true];constructor
 ·rintro⟨x,A,E⟩;have:=of_decide_eq_true E;subst this;exact A
 exact fun h=>⟨n,h,decide_eq_true rfl⟩
theorem Lst.minus{a w:List Int}{S:Nat->Prop}(h:Lst a S):Lst (eX a w) (fun r=>S r/\(r:Int)∉w):=⟨h.asc.sublist List.filter_sublist,fun x=>by
 unfold eX;rw[a1I,h.mem];simp only[a0K,a1m,ne_eq,jz];constructor
 ·rintro⟨⟨A,E⟩,J⟩;exact⟨A,E,by rw[show((x.toNat:Nat):Int)=x by omega];exact J⟩
 rintro⟨A,E,J⟩;exact⟨⟨A,E⟩,by rwa [show((x.toNat:Nat):Int)=x by omega]at J⟩⟩
def enS(c:VFnT)(b q:Nat)(r:Nat):Prop:= ∃t∈(aZ (bB c b)).take q,LIn c t.toNat r
theorem pt_in{c:VFnT}{b:Nat}(hb:b<c.blocks.length)(r:Nat):ptS c b 0 r↔LIn c b r:=by rw[LIn_iff hb];exact Iff.rfl
end Go.Proofs.YtknafdcgpaejlaaDoor.mf
