/-
How often registers are used: the allocator. No condition but bounds on lengths.
-/
import Derived.Test.YtgdggmlghemecaaDoorZANB
noncomputable section
namespace Go.Proofs.YtgdggmlghemecaaDoor.nc
open Go.R
set_option maxRecDepth 10000
set_option linter.unusedVariables false
set_option linter.unusedSimpArgs false
open m1 m2 m3 m4 m5 m6 ma ml mb mc md mf mg mh mi mj na nb
def usedI(v:VInT):List Int:=aI v++ab v
def usedB(b:BlkT):List Int:=b.ins.flatMap usedI++ei b
def usedC(c:VFnT):List Int:=c.blocks.flatMap usedB
def UsP(c:VFnT)(k n:Nat)(l:List Int):List Int:=(c.blocks.take k).flatMap usedB++((bh c k).ins.take n).flatMap usedI++l
structure CntF(c:VFnT)(L o:List Int):Prop where
 len:o.length=c.regs.toNat
 at_: ∀r,r<c.regs.toNat->o.getD r 0=(L.count (r:Int):Int)
theorem jG{c:VFnT}:CntF c (UsP c 0 0 []) (List.replicate c.regs.toNat 0):=⟨a0H,fun r z=>by
 have e:UsP c 0 0 []=[]:=by unfold UsP;simp
 rw[e,a03,a1k,if_pos z];rfl⟩
theorem cnt_step{c:VFnT}{k n:Nat}{l o:List Int}{x:Int}(h:CntF c (UsP c k n l) o)(T:0<=x/\x<c.regs):CntF c (UsP c k n (l++[x])) (o.set x.toNat (o.getD x.toNat 0+1)):=⟨a0c.trans h.len,fun r z=>by
 have e:UsP c k n (l++[x])=UsP c k n l++[x]:=(a0p _ _ _).symm;rw[e,List.count_append,List.count_singleton];have N:=h.len;by_cases A:x.toNat=r
 ·subst A;have E:((x.toNat:Nat):Int)=x:=M
  rw[a03,List.getElem?_set_self M,a0Q,h.at_ _ z,E];simp
 rw[a03,a2d A,←a03,h.at_ r z,if_neg m_];simp⟩
theorem cnt_rng{c:VFnT}{L o:List Int}{x:Int}(h:CntF c L o)(A:0<=x/\x<c.regs)(z:L.length<=1125899906842624):0<=o.getD x.toNat 0/\o.getD x.toNat 0<=1125899906842624/\x.toNat<o.length:=by rw[h.at_ _ M,h.len];have:=List.count_le_length (a:=((x.toNat:Nat):Int)) (l:=L);omega
theorem us_instr{c:VFnT}{k n:Nat}(z:n<(bh c k).ins.length):UsP c k n (aI ((bh c k).ins.getD n default)++ab ((bh c k).ins.getD n default))=UsP c k (n+1) []:=by unfold UsP;rw[bK z (d:=default),List.flatMap_append,a0r];simp[usedI]
theorem us_block{c:VFnT}{k:Nat}(z:k<c.blocks.length):UsP c k (bh c k).ins.length (ei (bh c k))=UsP c (k+1) 0 []:=by unfold UsP;rw[bK z (d:=default),List.flatMap_append,a1h];simp[usedB,bh]
theorem us_all{c:VFnT}{k:Nat}(z:c.blocks.length<=k):UsP c k 0 []=usedC c:=by unfold UsP usedC;rw[a0h z];simp
theorem fm_len{α:Type}{f:α->List Int}{B:Nat}: ∀{l:List α},(∀x∈l,(f x).length<=B)->(l.flatMap f).length<=l.length *B
 | [],_=>a0I _
 |x::l,h=>by
  have A:=fm_len (l:=l) fun y z=>h y (a0i _ z)
  have E:=h x (a0G ..);rw[List.flatMap_cons,a04,a0a,a1r];omega
theorem us_len{c:VFnT}{k n:Nat}{l:List Int}(v:VF c)(z: ∀j,(bh c j).ins.length<=1073741824)(hk:k<c.blocks.length)(hl:l.length<=20):(UsP c k n l).length<=1125899906842624:=by
 have hI: ∀b,b<c.blocks.length->∀x∈(bh c b).ins,(usedI x).length<=10:=fun b hb x hx=>by obtain⟨i,hi,rfl⟩:=a0K.1 hx;have A:=v.ins b hb i hi;rw[a03,a05 hi,a0Q]at A;have E:=ey (v:=(bh c b).ins[i]);have N:=dN (v:=(bh c b).ins[i]);have T:=(bx A).2.2;unfold usedI;rw[a04];omega
 have hB: ∀x∈c.blocks.take k,(usedB x).length<=10737418241:=fun x hx=>by
  obtain⟨b,hb,rfl⟩:=a0K.1 (a1v hx);have e:c.blocks[b]=bh c b:=by unfold bh;rw[a03,a05 hb];rfl
  rw[e];have A:=fm_len (hI b hb);have E:=z b;have N:(ei (bh c b)).length<=1:=by unfold ei;split<;>simp
  unfold usedB;rw[a04];omega
 have A:=fm_len hB;have E:=fm_len (l:=(bh c k).ins.take n) fun x hx=>hI k hk x (a1v hx)
 have N:=z k;have T:=v.nb;have U:(c.blocks.take k).length<=1000:=by rw[a0k];omega
 have a_:((bh c k).ins.take n).length<=1073741824:=by rw[a0k];omega
 unfold UsP;rw[a04,a04];have Z:(c.blocks.take k).length *10737418241<=1000 *10737418241:=a0E _ U;omega
end Go.Proofs.YtgdggmlghemecaaDoor.nc
