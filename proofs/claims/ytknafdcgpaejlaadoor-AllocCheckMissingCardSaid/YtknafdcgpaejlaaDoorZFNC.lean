/-
How often registers are used: the allocator. No condition but bounds on lengths.
-/
import Derived.Test.YtknafdcgpaejlaaDoorZFNB
noncomputable section
namespace Go.Proofs.YtknafdcgpaejlaaDoor.nc
open Go.R
set_option maxRecDepth 10000
set_option linter.unusedVariables false
set_option linter.unusedSimpArgs false
open m1 m2 m3 m4 m5 m6 ma ml mb mc md mf mg mh mi mj na nb
def usedI(v:VInT):List Int:=aB v++ab v
def usedB(b:BlkT):List Int:=b.ins.flatMap usedI++dE b
def usedC(c:VFnT):List Int:=c.blocks.flatMap usedB
def UsP(c:VFnT)(k n:Nat)(l:List Int):List Int:=(c.blocks.take k).flatMap usedB++((aR c k).ins.take n).flatMap usedI++l
structure CntF(c:VFnT)(L o:List Int):Prop where
 len:o.length=c.regs.toNat
 at_: ∀r,r<c.regs.toNat->o.getD r 0=(L.count (r:Int):Int)
theorem jk{c:VFnT}:CntF c (UsP c 0 0 []) (List.replicate c.regs.toNat 0):=⟨a0z,fun r z=>by
 have e:UsP c 0 0 []=[]:=by unfold UsP;simp
 rw[e,a01,a0R,if_pos z];rfl⟩
theorem cnt_step{c:VFnT}{k n:Nat}{l o:List Int}{x:Int}(h:CntF c (UsP c k n l) o)(T:0<=x/\x<c.regs):CntF c (UsP c k n (l++[x])) (o.set x.toNat (o.getD x.toNat 0+1)):=⟨a0g.trans h.len,fun r z=>by
 have e:UsP c k n (l++[x])=UsP c k n l++[x]:=(a0o _ _ _).symm;rw[e,List.count_append,List.count_singleton];have N:=h.len;by_cases A:x.toNat=r
 ·subst A;have E:((x.toNat:Nat):Int)=x:=by omega
  rw[a01,List.getElem?_set_self (by omega),a0C,h.at_ _ z,E];simp
 rw[a01,a29 A,←a01,h.at_ r z,if_neg (by simp;omega)];simp⟩
theorem cnt_rng{c:VFnT}{L o:List Int}{x:Int}(h:CntF c L o)(A:0<=x/\x<c.regs)(z:L.length<=1125899906842624):0<=o.getD x.toNat 0/\o.getD x.toNat 0<=1125899906842624/\x.toNat<o.length:=by rw[h.at_ _ (by omega),h.len];have:=a2c (a:=((x.toNat:Nat):Int)) (l:=L);omega
theorem us_instr{c:VFnT}{k n:Nat}(z:n<(aR c k).ins.length):UsP c k n (aB ((aR c k).ins.getD n default)++ab ((aR c k).ins.getD n default))=UsP c k (n+1) []:=by unfold UsP;rw[bt z (d:=default),List.flatMap_append,a0F];simp[usedI]
theorem us_block{c:VFnT}{k:Nat}(z:k<c.blocks.length):UsP c k (aR c k).ins.length (dE (aR c k))=UsP c (k+1) 0 []:=by unfold UsP;rw[bt z (d:=default),List.flatMap_append,a1e];simp[usedB,aR]
theorem us_all{c:VFnT}{k:Nat}(z:c.blocks.length<=k):UsP c k 0 []=usedC c:=by unfold UsP usedC;rw[a0i z];simp
theorem fm_len{α:Type}{f:α->List Int}{B:Nat}: ∀{l:List α},(∀x∈l,(f x).length<=B)->(l.flatMap f).length<=l.length*B
 | [],_=>a0D _
 |x::l,h=>by
  have A:=fm_len (l:=l) fun y z=>h y (a0h _ z)
  have E:=h x (a0r ..);rw[List.flatMap_cons,a04,a08,a1m];omega
theorem us_len{c:VFnT}{k n:Nat}{l:List Int}(v:VF c)(z: ∀j,(aR c j).ins.length<=1073741824)(hk:k<c.blocks.length)(hl:l.length<=20):(UsP c k n l).length<=1125899906842624:=by
 have hI: ∀b,b<c.blocks.length->∀x∈(aR c b).ins,(usedI x).length<=10:=fun b hb x hx=>by obtain⟨i,hi,rfl⟩:=a0B.1 hx;have A:=v.ins b hb i hi;rw[a01,a05 hi,a0C]at A;have E:=d9 (v:=(aR c b).ins[i]);have N:=du (v:=(aR c b).ins[i]);have T:=(bu A).2.2;unfold usedI;rw[a04];omega
 have hB: ∀x∈c.blocks.take k,(usedB x).length<=10737418241:=fun x hx=>by
  obtain⟨b,hb,rfl⟩:=a0B.1 (a1s hx);have e:c.blocks[b]=aR c b:=by unfold aR;rw[a01,a05 hb];rfl
  rw[e];have A:=fm_len (hI b hb);have E:=z b;have N:(dE (aR c b)).length<=1:=by unfold dE;split<;>simp
  unfold usedB;rw[a04];omega
 have A:=fm_len hB;have E:=fm_len (l:=(aR c k).ins.take n) fun x hx=>hI k hk x (a1s hx)
 have N:=z k;have T:=v.nb;have U:(c.blocks.take k).length<=1000:=by rw[a0j];omega
 have V:((aR c k).ins.take n).length<=1073741824:=by rw[a0j];omega
 unfold UsP;rw[a04,a04];have Z:(c.blocks.take k).length*10737418241<=1000*10737418241:=a0A _ U;omega
end Go.Proofs.YtknafdcgpaejlaaDoor.nc
