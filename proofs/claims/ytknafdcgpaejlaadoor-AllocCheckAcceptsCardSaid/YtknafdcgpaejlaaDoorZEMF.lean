/-
 Ascending lists of live registers: unions, differences, bounds, plain laws. No condition beyond those that each statement names.
-/
import Derived.Test.YtknafdcgpaejlaaDoorZEMD
noncomputable section
namespace Go.Proofs.YtknafdcgpaejlaaDoor.mf
open Go.R
set_option maxRecDepth 10000
set_option linter.unusedVariables false
set_option linter.unusedSimpArgs false
open m1 m2 m3 m4 m5 m6 ma ml mb mc md
theorem lin_lt{c:VFnT}(v:VF c){b r:Nat}(h:LIn c b r):(r:Int)<c.regs:=by
 refine h (fun _ r=>(r:Int)<c.regs) fun b hb r hr=>?_
 have key: ∀(l:List VInT),(∀w∈l,fj c.params c.regs w=true)->∀r,tr l (endS (aU c b) (outS c (fun _ r=>(r:Int)<c.regs) b)) r->(r:Int)<c.regs:=by
  intro l;induction l with
  |nil=>
   intro _ r hr
   rcases hr with⟨t,_,A⟩|A
   ·exact A
   unfold dC at A
   split at A
   ·rename_i hf;rw[a0b]at A;have:=v.fin b hb hf;omega
   cases A
  |cons w l ih=>
   intro hw r hr
   rcases hr with hr|hr
   ·exact((bu (hw w (a0p ..))).1 _ hr).2
   exact ih (fun x hx=>hw x (a0g _ hx)) r hr.1
 refine key _ (fun w hw=>?_) r hr;obtain⟨i,hi,rfl⟩:=a0A.1 hw;have:=v.ins b hb i hi;rwa [a01,a04 hi]at this
theorem im{c:VFnT}(v:VF c){b r:Nat}(h:kW c b r):(r:Int)<c.regs:=by obtain⟨t,_,A⟩:=h;exact lin_lt v A
theorem tr_lt{c:VFnT}(v:VF c){b:Nat}(hb:b<c.blocks.length): ∀(l:List VInT),(∀w∈l,w∈(aU c b).ins)->∀r,tr l (endS (aU c b) (kW c b)) r->(r:Int)<c.regs:=by
 intro l;induction l with
 |nil=>
  intro _ r hr
  rcases hr with A|A
  ·exact im v A
  unfold dC at A
  split at A
  ·rename_i hf;rw[a0b]at A;have:=v.fin b hb hf;omega
  cases A
 |cons w l ih=>
  intro hw r hr
  rcases hr with hr|hr
  ·obtain⟨i,hi,he⟩:=a0A.1 (hw w (a0p ..));have:=v.ins b hb i hi;rw[a01,a04 hi,a0B,he]at this;exact((bu this).1 _ hr).2
  exact ih (fun x hx=>hw x (a0g _ hx)) r hr.1
theorem cF{c:VFnT}(v:VF c){b i r:Nat}(hb:b<c.blocks.length)(h:ptS c b i r):(r:Int)<c.regs:=tr_lt v hb _ (fun w hw=>a2a hw) r h
theorem j2{m:Int}: ∀{l:List Int} (lo:Int),lo<=m->Asc l->(∀x∈l,lo<=x/\x<m)->(l.length:Int)<=m-lo
 | [],lo,h,_,_=>by simp;omega
 |x::l,lo,_,ha,hb=>by
  have A:=a1o.1 ha;have E:=hb x (a0p ..);have:=j2 (l:=l) (x+1) (by omega) A.2 fun y hy=>⟨by have:=A.1 y hy;omega,(hb y (a0g _ hy)).2⟩
  rw[a0a];omega
theorem Lst.len{l:List Int}{S:Nat->Prop}{m:Int}(h:Lst l S)(hm:0<=m)(hb: ∀r,S r->(r:Int)<m):(l.length:Int)<=m:=by
 have:=j2 0 hm h.asc fun x hx=>by obtain⟨A,E⟩:=(h.mem x).1 hx;have:=hb _ E;exact⟨A,by omega⟩
 omega
theorem Lst.nil{S:Nat->Prop}(h: ∀r,¬S r):Lst [] S:=⟨List.Pairwise.nil,fun x=>⟨fun hx=>(by cases hx),fun hx=>absurd hx.2 (h _)⟩⟩
theorem Lst.addL{a l:List Int}{S:Nat->Prop}(h:Lst a S)(hl: ∀x∈l,0<=x):Lst (cL a l) (fun r=>S r\/(r:Int)∈l):=⟨uni_asc h.asc,fun x=>by
 rw[uni_mem,h.mem];constructor
 ·rintro(A|A)
  ·exact⟨A.1,.inl A.2⟩
  have:=hl x A;exact⟨this,.inr (by rw[show((x.toNat:Nat):Int)=x by omega];exact A)⟩
 rintro⟨A,E|E⟩
 ·exact .inl ⟨A,E⟩
 exact .inr (by rwa [show((x.toNat:Nat):Int)=x by omega]at E)⟩
theorem Lst.union{a l:List Int}{S S':Nat->Prop}(h:Lst a S)(k:Lst l S'):Lst (cL a l) (fun r=>S r\/S' r):=by
 have N:=Lst.addL (l:=l) h fun x hx=>((k.mem x).1 hx).1
 refine⟨N.asc,fun x=>?_⟩;rw[N.mem];constructor
 ·rintro⟨E,A|A⟩
  ·exact⟨E,.inl A⟩
  exact⟨E,.inr (((k.mem _).1 A).2)⟩
 rintro⟨E,A|A⟩
 ·exact⟨E,.inl A⟩
 exact⟨E,.inr ((k.mem _).2 ⟨by omega,A⟩)⟩
theorem aW{l:List Int}{n:Int}:cH l n=true↔n∈l:=by
 unfold cH;rw[List.any_eq_true];constructor
 ·rintro⟨x,A,E⟩;have:=of_decide_eq_true E;subst this;exact A
 exact fun h=>⟨n,h,decide_eq_true rfl⟩
theorem Lst.minus{a w:List Int}{S:Nat->Prop}(h:Lst a S):Lst (dV a w) (fun r=>S r/\(r:Int)∉w):=⟨h.asc.sublist a1P,fun x=>by
 unfold dV;rw[a1G,h.mem];simp only[a0G,a1v,ne_eq,aW];constructor
 ·rintro⟨⟨A,E⟩,N⟩;exact⟨A,E,by rw[show((x.toNat:Nat):Int)=x by omega];exact N⟩
 rintro⟨A,E,N⟩;exact⟨⟨A,E⟩,by rwa [show((x.toNat:Nat):Int)=x by omega]at N⟩⟩
def enS(c:VFnT)(b q:Nat)(r:Nat):Prop:= ∃t∈(bc (aU c b)).take q,LIn c t.toNat r
theorem pt_in{c:VFnT}{b:Nat}(hb:b<c.blocks.length)(r:Nat):ptS c b 0 r↔LIn c b r:=by rw[LIn_iff hb];exact Iff.rfl
end Go.Proofs.YtknafdcgpaejlaaDoor.mf
