/-
Plain laws: what the functions compute answers as the statement says. No condition beyond those that each statement names.
-/
import Derived.Test.YtgdggmlghemecaaDoorZANV
noncomputable section
namespace Go.Proofs.YtgdggmlghemecaaDoor.nt
open Go.R m1 m2 m3 m4 m5 m6 ma ml mb mc md mf mg mh mi mj na nb nc ni nv
set_option linter.unusedVariables false
set_option linter.unusedSimpArgs false
def gv(a:AllT)(k:Nat)(n:Int):Prop:= ∃j,j<k/\(a.spi.getD j default).reg=n
def acrJ(c:VFnT)(s:SpiT):Prop:=(0<=s.blk/\s.blk.toNat<c.blocks.length)/\(0<=s.idx/\s.idx.toNat<(bh c s.blk.toNat).ins.length)/\s.oth.length=0/\acI c s.blk.toNat s.idx.toNat s.reg.toNat
def preJ(c:VFnT)(E:Int->Prop)(s:SpiT):Prop:=(0<=s.blk/\s.blk.toNat<c.blocks.length)/\(0<=s.idx/\s.idx.toNat<=(bh c s.blk.toNat).ins.length)/\5<=s.oth.length/\ptS c s.blk.toNat s.idx.toNat s.reg.toNat/\
 ∀k,k<s.oth.length->(0<k->s.oth.getD (k-1) 0<s.oth.getD k 0)/\s.oth.getD k 0≠s.reg/\(0<=s.oth.getD k 0/\ptS c s.blk.toNat s.idx.toNat (s.oth.getD k 0).toNat)/\¬E (s.oth.getD k 0)
def colJ(c:VFnT)(a:AllT)(s:SpiT):Prop:=s.blk=0/\s.idx=0/\s.oth.length=5/\∀k,k<s.oth.length->(0<=s.oth.getD k 0/\Sy (ie c) s.reg.toNat (s.oth.getD k 0).toNat)/\cH a (s.oth.getD k 0).toNat=⟨false,(k:Int)⟩
def iD(c:VFnT)(a:AllT)(E:Int->Prop)(s:SpiT):Prop:=(s.why=1/\acrJ c s)\/(s.why=2/\preJ c E s)\/(s.why=3/\colJ c a s)
def spN(a:AllT)(k:Nat):SpiT:=a.spi.getD k default
def spOK(c:VFnT)(a:AllT)(k:Nat):Prop:=(0<=(spN a k).reg/\(spN a k).reg<c.regs)/\¬gv a k (spN a k).reg/\(cH a (spN a k).reg.toNat).inS=true/\iD c a (gv a k) (spN a k)
structure JstG(c:VFnT)(a:AllT):Prop where
 val:bT c=true
 len:(a.locs.length:Int)=c.regs
 spi: ∀k,k<a.spi.length->spOK c a k
 all: ∀r,r<a.locs.length->(cH a r).inS=true->gv a a.spi.length (r:Int)
theorem earl_0{a:AllT}{n:Int}: ¬gv a 0 n:=fun⟨j,h,_⟩=>absurd h (a0t _)
theorem earl_s{a:AllT}{k:Nat}{n:Int}:gv a (k+1) n↔gv a k n\/(spN a k).reg=n:=by
 constructor
 ·rintro⟨j,E,A⟩;rcases a1K (a1H E) with N|rfl
  ·exact .inl ⟨j,N,A⟩
  exact .inr A
 rintro(⟨j,E,A⟩|h)
 ·exact⟨j,Nat.lt_succ_of_lt E,A⟩
 exact⟨k,a1u k,h⟩
theorem why_1{c:VFnT}{a:AllT}{E:Int->Prop}{s:SpiT}(h:s.why=1):iD c a E s↔acrJ c s:=by
 unfold iD;rw[h];constructor
 ·rintro(h|h|h)
  ·exact h.2
  ·exact absurd h.1 e_
  exact absurd h.1 e_
 exact fun h=> .inl ⟨V,h⟩
theorem why_2{c:VFnT}{a:AllT}{E:Int->Prop}{s:SpiT}(h:s.why=2):iD c a E s↔preJ c E s:=by
 unfold iD;rw[h];constructor
 ·rintro(h|h|h)
  ·exact absurd h.1 e_
  ·exact h.2
  exact absurd h.1 e_
 exact fun h=> .inr (.inl ⟨V,h⟩)
theorem why_3{c:VFnT}{a:AllT}{E:Int->Prop}{s:SpiT}(h:s.why=3):iD c a E s↔colJ c a s:=by
 unfold iD;rw[h];constructor
 ·rintro(h|h|h)
  ·exact absurd h.1 e_
  ·exact absurd h.1 e_
  exact h.2
 exact fun h=> .inr (.inr ⟨V,h⟩)
theorem why_n{c:VFnT}{a:AllT}{E:Int->Prop}{s:SpiT}(A: ¬s.why=1)(N: ¬s.why=2)(T: ¬s.why=3): ¬iD c a E s:=by
 rintro(h|h|h)
 ·exact A h.1
 ·exact N h.1
 exact T h.1
theorem jg_no0{c:VFnT}{a:AllT}(h:((!(bT c))||((a.locs.length:Int) !=c.regs))=true): ¬JstG c a:=fun s=>by rw[s.val,s.len]at h;simp at h
theorem jg_yes0{c:VFnT}{a:AllT}(h:((!(bT c))||((a.locs.length:Int) !=c.regs))=false):bT c=true/\(a.locs.length:Int)=c.regs:=by simp only[a0F,a0Z,bne_eq_false_iff_eq]at h;exact h
def SplE(c:VFnT)(a:AllT)(z:List Bool)(k:Nat):Prop:= ∀n:Nat,n<c.regs.toNat->(z.getD n false=true↔gv a k (n:Int))
theorem spl_0{c:VFnT}{a:AllT}:SplE c a (List.replicate c.regs.toNat false) 0:=fun n _=>by
 have e:(List.replicate c.regs.toNat false).getD n false=false:=by rw[a03,a1k];split<;>rfl
 rw[e];exact⟨(fun h=>by cases h),fun h=>absurd h earl_0⟩
theorem spl_s{c:VFnT}{a:AllT}{z:List Bool}{k:Nat}(h:SplE c a z k)(E:z.length=c.regs.toNat)(N:0<=(spN a k).reg/\(spN a k).reg<c.regs):SplE c a (z.set (spN a k).reg.toNat true) (k+1):=fun n A=>by
 rw[dI,earl_s,←h n A];by_cases e:(spN a k).reg.toNat=n
 ·rw[if_pos ⟨e,by omega⟩];exact⟨fun _=> .inr M,fun _=>rfl⟩
 rw[if_neg (fun h=>e h.1)];exact⟨.inl,fun h=>h.elim id fun h=>absurd M e⟩
theorem spl_at{c:VFnT}{a:AllT}{z:List Bool}{k:Nat}(h:SplE c a z k){x:Int}(A:0<=x/\x<c.regs):(z.getD x.toNat false=true↔gv a k x):=by rw[h x.toNat M,show((x.toNat:Nat):Int)=x by omega]
theorem jg_no1{c:VFnT}{a:AllT}{z:List Bool}{k:Nat}(hs:SplE c a z k)(U:k<a.spi.length)(h:(((decide ((spN a k).reg<0)||decide (c.regs<=(spN a k).reg))||z.getD (spN a k).reg.toNat false)|| !(cH a (spN a k).reg.toNat).inS)=true): ¬JstG c a:=fun s=>by
 obtain⟨A,E,N,_⟩:=s.spi k U;have T:z.getD (spN a k).reg.toNat false=false:=by
  cases e:z.getD (spN a k).reg.toNat false with
  |false=>rfl
  |true=>exact absurd ((spl_at hs A).1 e) E
 rw[decide_eq_false M,decide_eq_false M,T,N]at h;simp at h
theorem jg_yes1{c:VFnT}{a:AllT}{z:List Bool}{k:Nat}(hs:SplE c a z k)(h:(((decide ((spN a k).reg<0)||decide (c.regs<=(spN a k).reg))||z.getD (spN a k).reg.toNat false)|| !(cH a (spN a k).reg.toNat).inS)=false):(0<=(spN a k).reg/\(spN a k).reg<c.regs)/\¬gv a k (spN a k).reg/\(cH a (spN a k).reg.toNat).inS=true:=by
 simp only[a0F,decide_eq_false_iff_not,a0Z]at h;have A:0<=(spN a k).reg/\(spN a k).reg<c.regs:=M
 exact⟨A,(fun E=>by rw[(spl_at hs A).2 E]at h;cases h.1.2),h.2⟩
theorem iff_f{o:Bool}{P:Prop}(h:o=true↔P)(k:o=false): ¬P:=fun p=>by rw[h.2 p]at k;cases k
def pI(F:Fz)(c:VFnT)(k:Int)(w:Value):Prop:= ∃a l n,w=sL a (List.length l) n/\SR F (sL a l.length n) l/\PtF c k.toNat l
def TabP(F:Fz)(c:VFnT)(es:List (Value×Value)):Prop:=TabI (pI F c) es
theorem TabP.mono{F F':Fz}{c:VFnT}{es:List (Value×Value)}(h:TabP F c es)(z:F.le F'):TabP F' c es:=TabI.imp h fun k w ⟨a,l,n,A,E,N⟩=>⟨a,l,n,A,E.mono z,N⟩
section
variable {P:Program} {ρ:Operand->Value} {d:Option Tmp} {ty:TypeId} {pos:String} {af:Array Edge} {gd:Option (Nat×Bool)} {B:Base} {F:Fz} {H:Heap} {L R:List Fp} {es:List (Value×Value)} {c:VFnT}
theorem rs_lookP{t kt z:TypeId}{m kx:Operand}{q b:Nat}{k:Int}{i:TypeInfo}(hs:HS B F H L R)(hq:L[q]?=some [(b,.tab es)])(hT:TabP F c es)(hm:ρ m= .map (some b))(hk:ρ kx=iI k)(ht:P.underlying t=some (.map kt z))(hd:P.underlying kt=some (.int .i64))(hi:P.info? z=some i)(hz:i.zero=some (sL none 0 0))(hn:gZ (sL none 0 0)=true):
  ∃r:Rs,AP P ρ ⟨d,.lookup t m kx true,ty,pos,af,gd⟩ H (.val r.v,r.H)/\(∃(a:Option Addr) (l:List (List Int)) (n:Nat) (o:Bool),r.v= .tuple #[sL a l.length n,.bool o]/\r.H=H/\SR F (sL a l.length n) l/\(o=true->PtF c k.toNat l)):=by
 obtain⟨r,U,w,o,A,E,a_,Z⟩:=rs_look (d:=d) (ty:=ty) (pos:=pos) (af:=af) (gd:=gd) hs hq hT hm hk ht hd hi hz hn
 refine⟨r,U,?_⟩
 cases o with
 |true=>
  obtain⟨a,l,n,rfl,N,T⟩:=a_ V
  exact⟨a,l,n,true,A,E,N,fun _=>T⟩
 |false=>
  have:=Z V
  subst this
  exact⟨none,[],0,false,A,E,SR.nil,fun h=>by cases h⟩
theorem rs_updP{t A T:TypeId}{m E N:Operand}{q b:Nat}{k:Int}{a:Option Addr}{l:List (List Int)}{n:Nat}(hs:HS B F H L R)(hq:L[q]?=some [(b,.tab es)])(U:TabP F c es)(hr:SR F (sL a l.length n) l)(hp:PtF c k.toNat l)(hm:ρ m= .map (some b))(hk:ρ E=iI k)(hv:ρ N=sL a l.length n)(ht:P.underlying t=some (.map A T))(Z:P.underlying A=some (.int .i64)):
  ∃r:Rs,AP P ρ ⟨d,.mapUpdate t m E N,ty,pos,af,gd⟩ H (.skip,r.H)/\(∃z,HS B F r.H (L.set q [(b,.tab z)]) R/\TabP F c z/\Wr H r.H [b]):=
 rs_upd hs hq U ⟨a,l,n,V,hr,hp⟩ hm hk hv ht Z
end
theorem acr_no{c:VFnT}{s:SpiT}(h:((((decide (s.blk<0)||decide ((c.blocks.length:Int)<=s.blk))||decide (s.idx<0))||decide (((bh c s.blk.toNat).ins.length:Int)<=s.idx))||decide ((0:Int)<(s.oth.length:Int)))=true): ¬acrJ c s:=fun⟨A,E,N,_⟩=>by rw[decide_eq_false M,decide_eq_false M,decide_eq_false M,decide_eq_false M,decide_eq_false M]at h;cases h
theorem acr_yes{c:VFnT}{s:SpiT}(h:((((decide (s.blk<0)||decide ((c.blocks.length:Int)<=s.blk))||decide (s.idx<0))||decide (((bh c s.blk.toNat).ins.length:Int)<=s.idx))||decide ((0:Int)<(s.oth.length:Int)))=false):(0<=s.blk/\s.blk.toNat<c.blocks.length)/\(0<=s.idx/\s.idx.toNat<(bh c s.blk.toNat).ins.length)/\s.oth.length=0:=by simp only[a0F,decide_eq_false_iff_not]at h;omega
theorem pre_no{c:VFnT}{E:Int->Prop}{s:SpiT}(h:((((decide (s.blk<0)||decide ((c.blocks.length:Int)<=s.blk))||decide (s.idx<0))||decide (((bh c s.blk.toNat).ins.length:Int)<s.idx))||decide ((s.oth.length:Int)<5))=true): ¬preJ c E s:=fun⟨A,N,T,_⟩=>by rw[decide_eq_false M,decide_eq_false M,decide_eq_false M,decide_eq_false M,decide_eq_false M]at h;cases h
theorem pre_yes{c:VFnT}{s:SpiT}(h:((((decide (s.blk<0)||decide ((c.blocks.length:Int)<=s.blk))||decide (s.idx<0))||decide (((bh c s.blk.toNat).ins.length:Int)<s.idx))||decide ((s.oth.length:Int)<5))=false):(0<=s.blk/\s.blk.toNat<c.blocks.length)/\(0<=s.idx/\s.idx.toNat<=(bh c s.blk.toNat).ins.length)/\5<=s.oth.length:=by simp only[a0F,decide_eq_false_iff_not]at h;omega
end Go.Proofs.YtgdggmlghemecaaDoor.nt
