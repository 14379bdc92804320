/-
 How often registers are used: the allocator, by a symbolic run. No condition but bounds on lengths.
-/
import Derived.Test.YtknafdcgpaejlaaDoorZENB
noncomputable section
namespace Go.Proofs.YtknafdcgpaejlaaDoor.nc
open Go.R
set_option maxRecDepth 10000
set_option linter.unusedVariables false
set_option linter.unusedSimpArgs false
open m1 m2 m3 m4 m5 m6 ma ml mb mc md mf mg mh mi mj na nb
def usedI(v:VInT):List Int:=aH v++ab v
def usedB(b:BlkT):List Int:=b.ins.flatMap usedI++dC b
def usedC(c:VFnT):List Int:=c.blocks.flatMap usedB
def UsP(c:VFnT)(k n:Nat)(l:List Int):List Int:=(c.blocks.take k).flatMap usedB++((aU c k).ins.take n).flatMap usedI++l
structure CntF(c:VFnT)(L o:List Int):Prop where
 len:o.length=c.regs.toNat
 at_: ∀r,r<c.regs.toNat->o.getD r 0=(L.count (r:Int):Int)
theorem jk{c:VFnT}:CntF c (UsP c 0 0 []) (List.replicate c.regs.toNat 0):=⟨a0x,fun r hr=>by
 have e:UsP c 0 0 []=[]:=by unfold UsP;simp
 rw[e,a01,a0R,if_pos hr];rfl⟩
theorem cnt_step{c:VFnT}{k n:Nat}{l o:List Int}{x:Int}(h:CntF c (UsP c k n l) o)(hx:0<=x/\x<c.regs):CntF c (UsP c k n (l++[x])) (o.set x.toNat (o.getD x.toNat 0+1)):=⟨a0f.trans h.len,fun r hr=>by
 have e:UsP c k n (l++[x])=UsP c k n l++[x]:=(a0l _ _ _).symm;rw[e,List.count_append,List.count_singleton];have hl:=h.len;by_cases A:x.toNat=r
 ·subst A;have E:((x.toNat:Nat):Int)=x:=by omega
  rw[a01,List.getElem?_set_self (by omega),a0B,h.at_ _ hr,E];simp
 rw[a01,a28 A,←a01,h.at_ r hr,if_neg (by simp;omega)];simp⟩
theorem cnt_rng{c:VFnT}{L o:List Int}{x:Int}(h:CntF c L o)(hx:0<=x/\x<c.regs)(hl:L.length<=1125899906842624):0<=o.getD x.toNat 0/\o.getD x.toNat 0<=1125899906842624/\x.toNat<o.length:=by rw[h.at_ _ (by omega),h.len];have:=a2b (a:=((x.toNat:Nat):Int)) (l:=L);omega
theorem us_instr{c:VFnT}{k n:Nat}(hn:n<(aU c k).ins.length):UsP c k n (aH ((aU c k).ins.getD n default)++ab ((aU c k).ins.getD n default))=UsP c k (n+1) []:=by unfold UsP;rw[bt hn (d:=default),List.flatMap_append,a0E];simp[usedI]
theorem us_block{c:VFnT}{k:Nat}(hk:k<c.blocks.length):UsP c k (aU c k).ins.length (dC (aU c k))=UsP c (k+1) 0 []:=by unfold UsP;rw[bt hk (d:=default),List.flatMap_append,a1d];simp[usedB,aU]
theorem us_all{c:VFnT}{k:Nat}(hk:c.blocks.length<=k):UsP c k 0 []=usedC c:=by unfold UsP usedC;rw[a0h hk];simp
theorem fm_len{α:Type}{f:α->List Int}{B:Nat}: ∀{l:List α},(∀x∈l,(f x).length<=B)->(l.flatMap f).length<=l.length*B
 | [],_=>a0C _
 |x::l,h=>by
  have A:=fm_len (l:=l) fun y hy=>h y (a0g _ hy)
  have E:=h x (a0p ..);rw[List.flatMap_cons,a05,a0a,a1l];omega
theorem us_len{c:VFnT}{k n:Nat}{l:List Int}(v:VF c)(hins: ∀j,(aU c j).ins.length<=1073741824)(hk:k<c.blocks.length)(hl:l.length<=20):(UsP c k n l).length<=1125899906842624:=by
 have hI: ∀b,b<c.blocks.length->∀x∈(aU c b).ins,(usedI x).length<=10:=fun b hb x hx=>by obtain⟨i,hi,rfl⟩:=a0A.1 hx;have A:=v.ins b hb i hi;rw[a01,a04 hi,a0B]at A;have E:=ec (v:=(aU c b).ins[i]);have N:=dz (v:=(aU c b).ins[i]);have T:=(bu A).2.2;unfold usedI;rw[a05];omega
 have hB: ∀x∈c.blocks.take k,(usedB x).length<=10737418241:=fun x hx=>by
  obtain⟨b,hb,rfl⟩:=a0A.1 (a1r hx);have e:c.blocks[b]=aU c b:=by unfold aU;rw[a01,a04 hb];rfl
  rw[e];have A:=fm_len (hI b hb);have E:=hins b;have N:(dC (aU c b)).length<=1:=by unfold dC;split<;>simp
  unfold usedB;rw[a05];omega
 have A:=fm_len hB;have E:=fm_len (l:=(aU c k).ins.take n) fun x hx=>hI k hk x (a1r hx)
 have N:=hins k;have T:=v.nb;have U:(c.blocks.take k).length<=1000:=by rw[a0q];omega
 have V:((aU c k).ins.take n).length<=1073741824:=by rw[a0q];omega
 unfold UsP;rw[a05,a05];have Z:(c.blocks.take k).length*10737418241<=1000*10737418241:=a0z _ U;omega
end Go.Proofs.YtknafdcgpaejlaaDoor.nc
