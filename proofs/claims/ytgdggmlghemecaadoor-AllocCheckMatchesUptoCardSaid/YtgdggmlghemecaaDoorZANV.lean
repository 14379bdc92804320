/-
Soundness of an allocation. No condition but bounds on lengths.
-/
import Derived.Test.YtgdggmlghemecaaDoorZANI
noncomputable section
namespace Go.Proofs.YtgdggmlghemecaaDoor.nv
open Go.R
set_option maxRecDepth 10000
set_option maxHeartbeats 2000000
set_option linter.unusedVariables false
set_option linter.unusedSimpArgs false
variable (ex:FuncId) {F:Fz} {H:Heap} {R:List Fp}
structure LocT where
 inS:Bool
 idx:Int
 deriving Inhabited,DecidableEq
instance :Rp LocT where
 sz:=2
 rep F cs x:=cs=[.bool x.inS,iI x.idx]/\in64 x.idx
 len:=by rintro F cs x ⟨rfl,_⟩;rfl
 one:=by rintro F cs x ⟨rfl,_⟩;rfl
 mono:=by intro F F' cs x _ h;exact h
theorem LocT.vw{F:Fz}{get:Nat->Option AObj}{v:Value}{cf:Nat->List Value}{j:Nat}{l:List LocT}(h:VW F get v l cf j)(z:j<l.length:=by first|(dsimp only;omega)|omega):HC get (sB v) (sO v+j *Rp.sz LocT) [.bool (l.getD j default).inS,iI (l.getD j default).idx]:=by obtain⟨⟨E,_⟩,A⟩:=h.1 default z;rw[show cf j=_ from E]at A;exact A
theorem LocT.fx{F:Fz}{get:Nat->Option AObj}{v:Value}{cf:Nat->List Value}{j:Nat}{l:List LocT}(h:VW F get v l cf j):in64 (l.getD j default).idx:=by
 rcases a0j j l.length with hj|hj
 ·obtain⟨⟨E,A⟩,_⟩:=h.1 default hj;exact A
 rw[cV hj];decide
structure SpiT where
 reg:Int
 why:Int
 blk:Int
 idx:Int
 oth:(List Int)
 deriving Inhabited,DecidableEq
instance :Rp SpiT where
 sz:=5
 rep F cs x:= ∃a4 k4,cs=[iI x.reg,iI x.why,iI x.blk,iI x.idx,sL a4 x.oth.length k4]/\in64 x.reg/\in64 x.why/\in64 x.blk/\in64 x.idx/\SR F (sL a4 x.oth.length k4) x.oth
 len:=by rintro F cs x ⟨a4,k4,rfl,_⟩;rfl
 one:=by rintro F cs x ⟨a4,k4,rfl,_⟩;rfl
 mono:=by rintro F F' cs x hF ⟨a4,k4,rfl,h0,h1,h2,h3,h4⟩;exact⟨a4,k4,V,h0,h1,h2,h3,h4.mono hF⟩
theorem SpiT.vw{F:Fz}{get:Nat->Option AObj}{v:Value}{cf:Nat->List Value}{j:Nat}{l:List SpiT}(h:VW F get v l cf j)(z:j<l.length:=by first|(dsimp only;omega)|omega):HC get (sB v) (sO v+j *Rp.sz SpiT) [iI (l.getD j default).reg,iI (l.getD j default).why,iI (l.getD j default).blk,iI (l.getD j default).idx,sL (cA (cf j) 4) (l.getD j default).oth.length (cK (cf j) 4)]:=by obtain⟨⟨N,T,E,_⟩,A⟩:=h.1 default z;rw[show cf j=_ from E]at A⊢;exact A
theorem SpiT.fx{F:Fz}{get:Nat->Option AObj}{v:Value}{cf:Nat->List Value}{j:Nat}{l:List SpiT}(h:VW F get v l cf j):in64 (l.getD j default).reg/\in64 (l.getD j default).why/\in64 (l.getD j default).blk/\in64 (l.getD j default).idx/\SR F (sL (cA (cf j) 4) (l.getD j default).oth.length (cK (cf j) 4)) (l.getD j default).oth:=by
 rcases a0j j l.length with hj|hj
 ·obtain⟨⟨Z,z,A,E,N,T,U,a_⟩,_⟩:=h.1 default hj;rw[show cf j=_ from A];exact⟨E,N,T,U,a_⟩
 rw[cV hj,h.2 hj];exact⟨by decide,by decide,by decide,by decide,SR.nil⟩
structure AllT where
 locs:(List LocT)
 spi:(List SpiT)
 slots:Int
 deriving Inhabited,DecidableEq
instance :Rp AllT where
 sz:=3
 rep F cs x:= ∃a0 k0 a1 k1,cs=[sL a0 x.locs.length k0,sL a1 x.spi.length k1,iI x.slots]/\in64 x.slots/\SR F (sL a0 x.locs.length k0) x.locs/\SR F (sL a1 x.spi.length k1) x.spi
 len:=by rintro F cs x ⟨a0,k0,a1,k1,rfl,_⟩;rfl
 one:=by rintro F cs x ⟨a0,k0,a1,k1,rfl,_⟩;rfl
 mono:=by rintro F F' cs x hF ⟨a0,k0,a1,k1,rfl,h0,h1,h2⟩;exact⟨a0,k0,a1,k1,V,h0,h1.mono hF,h2.mono hF⟩
theorem AllT.vw{F:Fz}{get:Nat->Option AObj}{v:Value}{cf:Nat->List Value}{j:Nat}{l:List AllT}(h:VW F get v l cf j)(z:j<l.length:=by first|(dsimp only;omega)|omega):HC get (sB v) (sO v+j *Rp.sz AllT) [sL (cA (cf j) 0) (l.getD j default).locs.length (cK (cf j) 0),sL (cA (cf j) 1) (l.getD j default).spi.length (cK (cf j) 1),iI (l.getD j default).slots]:=by obtain⟨⟨N,U,T,k1,E,_⟩,A⟩:=h.1 default z;rw[show cf j=_ from E]at A⊢;exact A
theorem AllT.fx{F:Fz}{get:Nat->Option AObj}{v:Value}{cf:Nat->List Value}{j:Nat}{l:List AllT}(h:VW F get v l cf j):in64 (l.getD j default).slots/\SR F (sL (cA (cf j) 0) (l.getD j default).locs.length (cK (cf j) 0)) (l.getD j default).locs/\SR F (sL (cA (cf j) 1) (l.getD j default).spi.length (cK (cf j) 1)) (l.getD j default).spi:=by
 rcases a0j j l.length with hj|hj
 ·obtain⟨⟨U,Z,a_,k1,A,E,N,T⟩,_⟩:=h.1 default hj;rw[show cf j=_ from A];exact⟨E,N,T⟩
 rw[cV hj,h.2 hj];exact⟨by decide,SR.nil,SR.nil⟩
open m1 m2 m3 m4 m5 m6 ma ml mb mc md mf mg mh mi mj na nb nc ni
theorem eX{c:VFnT}{l:List Int}{S:Nat->Prop}(h:Lst l S)(hs: ∀r,S r->(r:Int)<c.regs): ∀x∈l,0<=x/\x<c.regs:=fun x z=>by obtain⟨E,A⟩:=(h.mem x).1 z;have:=hs _ A;omega
theorem lst_some{l:List Int}{S:Nat->Prop}(h:Lst l S)(z:0<l.length): ∃r,S r:=by
 cases l with
 |nil=>exact absurd z (Nat.lt_irrefl _)
 |cons x l=>exact⟨_,((h.mem x).1 (a0G ..)).2⟩
theorem inte_lt{c:VFnT}(v:VF c){a x:Nat}(h:ie c a x):(a:Int)<c.regs/\(x:Int)<c.regs:=by obtain⟨b,i,A,E,N,T,_⟩:=h;exact⟨((bx (v.ins b A i E)).2.1 _ N).2,eB v A T⟩
theorem fQ{c:VFnT}(v:VF c){r y:Nat}(h:Sy (ie c) r y):(y:Int)<c.regs:=h.elim (fun h=>(inte_lt v h).2) fun h=>(inte_lt v h).1
theorem in_some{c:VFnT}{x:List (List Int)}(h:Lst (x.getD 0 default) (LIn c 0))(z:0<c.blocks.length)(A:0<(x.getD 0 default).length): ∃r,ptS c 0 0 r:=by obtain⟨r,E⟩:=lst_some h A;exact⟨r,(pt_in z _).2 E⟩
theorem in_none{c:VFnT}{x:List (List Int)}(h:Lst (x.getD 0 default) (LIn c 0))(z:0<c.blocks.length)(N: ¬0<(x.getD 0 default).length): ∀r,¬ptS c 0 0 r:=fun r E=>by have:=(pt_in z _).1 E;have A:=List.length_pos_of_mem ((h.mem (r:Int)).2 ⟨by omega,by rw[show((r:Nat):Int).toNat=r by omega];exact this⟩);omega
def okL(c:VFnT)(a:AllT)(x:LocT):Prop:=(x.inS=true->c.params<=x.idx/\x.idx<a.slots)/\(x.inS=false->0<=x.idx/\x.idx<5)
def cH(a:AllT)(r:Nat):LocT:=a.locs.getD r default
structure SndP(c:VFnT)(a:AllT):Prop where
 val:bT c=true
 len:(a.locs.length:Int)=c.regs
 lo:c.params<=a.slots
 hi:a.slots<=3000
 z: ∀r,¬ptS c 0 0 r
 loc: ∀q,q<a.locs.length->okL c a (cH a q)
 dis: ∀q y,q<a.locs.length->Sy (ie c) q y->cH a q≠cH a y
 acr: ∀r,acS c r->(cH a r).inS=true
def bP(p:Prop):Bool:= @decide p (Classical.propDecidable p)
theorem bP_y{p:Prop}(h:p):true=bP p:=(@decide_eq_true p (Classical.propDecidable p) h).symm
theorem gx{p:Prop}(h: ¬p):false=bP p:=(@decide_eq_false p (Classical.propDecidable p) h).symm
theorem iA{p:Prop}:bP p=true↔p:= @decide_eq_true_iff p (Classical.propDecidable p)
theorem bP_of{p:Prop}{o:Bool}(h:o=true↔p):o=bP p:=by rw[a0o,iA];exact h
theorem bX{P:Nat->Prop}{k:Nat}(h: ∀q,q<k->P q)(z:P k): ∀q,q<k+1->P q:=fun q E=>by
 rcases a1K (a1H E) with A|rfl
 ·exact h q A
 exact z
theorem snd_row{c:VFnT}{a:AllT}{z:List Int}{r n:Nat}(A:Lst z (Sy (ie c) r))(U:z.length<=n)(h: ∀p,p<n->cH a r≠cH a (z.getD p 0).toNat): ∀y,Sy (ie c) r y->cH a r≠cH a y:=fun y T=>by have E:=(A.mem (y:Int)).2 ⟨by omega,by rw[show((y:Nat):Int).toNat=y by omega];exact T⟩;obtain⟨p,N,e⟩:=a2j E;have:=h p M;rw[a03,a05 N,a0Q,e]at this;rwa [show((y:Nat):Int).toNat=y by omega]at this
theorem snd_acr{c:VFnT}{a:AllT}{l:List Int}{n:Nat}(z:Lst l (acS c))(T:l.length<=n)(h: ∀p,p<n->(cH a (l.getD p 0).toNat).inS=true): ∀r,acS c r->(cH a r).inS=true:=fun y N=>by have A:=(z.mem (y:Int)).2 ⟨by omega,by rw[show((y:Nat):Int).toNat=y by omega];exact N⟩;obtain⟨p,E,e⟩:=a2j A;have:=h p M;rw[a03,a05 E,a0Q,e]at this;rwa [show((y:Nat):Int).toNat=y by omega]at this
theorem snd_no0{c:VFnT}{a:AllT}(h:((((!(bT c))||((a.locs.length:Int) !=c.regs))||(decide (a.slots<c.params)))||(decide ((3000:Int)<a.slots)))=true): ¬SndP c a:=fun s=>by have A:=s.val;have E:=s.len;have N:=s.lo;have T:=s.hi;rw[A,E,decide_eq_false M,decide_eq_false M]at h;simp at h
theorem snd_yes0{c:VFnT}{a:AllT}(h:((((!(bT c))||((a.locs.length:Int) !=c.regs))||(decide (a.slots<c.params)))||(decide ((3000:Int)<a.slots)))=false):bT c=true/\(a.locs.length:Int)=c.regs/\c.params<=a.slots/\a.slots<=3000:=by simp only[a0F,decide_eq_false_iff_not,a0Z,bne_eq_false_iff_eq]at h;exact⟨h.1.1.1,h.1.1.2,by omega,by omega⟩
theorem ok_no{c:VFnT}{a:AllT}{x:LocT}{lo hi:Int}(A:(x.inS=true/\lo=c.params/\hi=a.slots)\/(x.inS=false/\lo=0/\hi=5))(z:((decide (x.idx<lo))||(decide (hi<=x.idx)))=true): ¬okL c a x:=fun h=>by
 rw[a0z,decide_eq_true_eq,decide_eq_true_eq]at z;rcases A with⟨e,rfl,rfl⟩|⟨e,rfl,rfl⟩
 ·have:=h.1 e;omega
 have:=h.2 e;omega
theorem ok_yes{c:VFnT}{a:AllT}{x:LocT}{lo hi:Int}(A:(x.inS=true/\lo=c.params/\hi=a.slots)\/(x.inS=false/\lo=0/\hi=5))(z:((decide (x.idx<lo))||(decide (hi<=x.idx)))=false):okL c a x:=by
 rw[a0F,decide_eq_false_iff_not,decide_eq_false_iff_not]at z;rcases A with⟨e,rfl,rfl⟩|⟨e,rfl,rfl⟩
 ·exact⟨fun _=>by omega,fun h=>by rw[e]at h;cases h⟩
 exact⟨(fun h=>by rw[e]at h;cases h),fun _=>by omega⟩
theorem loc_eq{x y:LocT}(h:(x.inS==y.inS&&(x.idx==y.idx&&true))=true):x=y:=by obtain⟨a,i⟩:=x;obtain⟨b,j⟩:=y;simp at h;obtain⟨rfl,rfl⟩:=h;rfl
theorem loc_nq{x y:LocT}(h:(x.inS==y.inS&&(x.idx==y.idx&&true))=false):x≠y:=fun e=>by subst e;simp at h
theorem rok_no{c:VFnT}{a:AllT}{l:List Int}{r:Nat}(z:Lst l (acS c))(T:r<a.locs.length)(h:(((cH a r).inS&&((decide ((cH a r).idx<c.params))||(decide (a.slots<=(cH a r).idx))))||((!(cH a r).inS)&&(((decide ((cH a r).idx<0))||(decide ((5:Int)<=(cH a r).idx)))||bS l (r:Int))))=true): ¬SndP c a:=fun s=>by
 have A:=s.loc r T;cases hi:(cH a r).inS with
 |true=>
  have N:=A.1 hi
  rw[hi,decide_eq_false M,decide_eq_false M]at h
  simp at h
 |false=>
  have N:=A.2 hi
  rw[hi,decide_eq_false (by omega: ¬(cH a r).idx<0),decide_eq_false (by omega: ¬(5:Int)<=(cH a r).idx)]at h
  simp only[a1A,a1z,a1j,a1W,aM]at h
  have E:=s.acr r (((z.mem _).1 h).2)
  rw[hi]at E;cases E
theorem rok_yes{c:VFnT}{a:AllT}{l:List Int}{r:Nat}(z:Lst l (acS c))(h:(((cH a r).inS&&((decide ((cH a r).idx<c.params))||(decide (a.slots<=(cH a r).idx))))||((!(cH a r).inS)&&(((decide ((cH a r).idx<0))||(decide ((5:Int)<=(cH a r).idx)))||bS l (r:Int))))=false):okL c a (cH a r)/\(acS c r->(cH a r).inS=true):=by
 cases hi:(cH a r).inS with
 |true=>
  rw[hi]at h
  simp only[a1j,a1x,a1A,a1y,a0F,decide_eq_false_iff_not]at h
  exact⟨⟨fun _=>by omega,fun A=>(by rw[hi]at A;cases A)⟩,fun _=>rfl⟩
 |false=>
  rw[hi]at h
  simp only[a1A,a1z,a1j,a1W,a0F,decide_eq_false_iff_not]at h
  refine⟨⟨fun A=>(by rw[hi]at A;cases A),fun _=>by omega⟩,fun A=>?_⟩
  have E:=aM.2 ((z.mem (r:Int)).2 ⟨by omega,by rw[show((r:Nat):Int).toNat=r by omega];exact A⟩)
  rw[E]at h;cases h.2
theorem lst_at{S:Nat->Prop}{l:List Int}{p:Nat}(z:Lst l S)(A:p<l.length):S (l.getD p 0).toNat:=((z.mem _).1 (i8 A)).2
theorem sound_c{a8:Option Addr}{bz:Nat}(c:VFnT){b7:Option Addr}{ch:Nat}{al:Option Addr}{ax:Nat}(a:AllT)(hs:HS (.of H []) F H [] R)(hC:in64 c.params)(hD:in64 c.regs)(N:SR F (sL a8 c.blocks.length bz) c.blocks)(E:SR F (sL al a.locs.length ax) a.locs)(hA:SR F (sL b7 a.spi.length ch) a.spi)(hB:in64 a.slots)(hT:TB 37 tabC F)(c3: ∀j,(c.blocks.getD j default).ins.length<=1073741822):kKt ex 9 [(aG [(iI c.params),(iI c.regs),(sL a8 c.blocks.length bz)]),(aG [(sL al a.locs.length ax),(sL b7 a.spi.length ch),(iI a.slots)])] H fun v H'=> ∃(o:Bool) (F':Fz),Fz.le F F'/\HS (.of H []) F' H' [] R/\v= .bool o/\o=bP (SndP c a):=by
 refine aC Tryd.func9 V V ?_;refine aj 1 V ?_;refine aa ?_;refine aV (aO hs V V) V V ?_;rintro _ H2 _ ⟨b1,rfl,g1,_⟩;refine aV (aO g1 V V) V V ?_;rintro _ H4 _ ⟨b3,rfl,a6,_⟩;refine wa (.bool false) V V V ?_;refine ae 3 V ?_;refine sj 1 17 39 [] [(39,(.bool ((((!(bT c))||((a.locs.length:Int) !=c.regs))||(decide (a.slots<c.params)))||(decide ((3000:Int)<a.slots)))))] (Hr_ 0 0 (Hk_ 1 (jc a6 fun _ _ j q=>m3.iE ex c q M M (N.mono j) (hT.mono j) (by exact fun j=>a0e (c3 j) M)) (mV 5 (fun _=>(jl a6 23 0 1 V V V)) (mV 8 (fun _=>(jl a6 3 1 0 V V V)) (mV 13 (fun _=>(jl a6 3 2 1 V V V)) (mV 15 (fun _=>(jl a6 3 0 0 V V V)) (mV 20 (fun _=>(jl a6 3 2 1 V V V)) Hn_))))))) a6 V V fun ik H5 F5 ag ci=>?_
 replace hT:=hT.mono ag;replace E:=E.mono ag;replace N:=N.mono ag;refine az 1 3 (v:=((((!(bT c))||((a.locs.length:Int) !=c.regs))||(decide (a.slots<c.params)))||(decide ((3000:Int)<a.slots)))) V V V V (fun b2=>?_) (fun b2=>?_)
 ·have c6:=b2;try simp only[BS]at c6
  have ai: ¬SndP c a:=snd_no0 b2;refine wT 1 [] 4 4 [] [(4,(.bool false))] V fun _=>?_
  refine am ⟨.inr V,_,V,false,_,(ag),(HS.forget ci),V,(by first|exact gx ai|exact bP_y ao)⟩
 have c6:=b2;try simp only[BS]at c6
 have gb:=snd_yes0 b2;have hv:=gb.1;have kz:=gb.2.1;have ly:=gb.2.2.1;have lr:=gb.2.2.2;have vF:=eU hv;have mY:=vF.nb;have kd:=vF.regs;have mZ:=vF.params;refine aa ?_;let e5:Value:=(aG [(iI c.params),(iI c.regs),(sL a8 c.blocks.length bz)])
 refine bn 1 0 41 41 [] [(41,e5)] (Hr_ 0 0 Hn_) ci V V fun _=>?_
 refine aH (aq V V V) V V (md.blocks_c ex c (HS.call ci) M M N hT (by exact fun j=>a0e (c3 j) M)) ?_;rintro _ H9 ⟨g0,g2,x9,h4,iv,y9,F9,ay,a7,rfl,ea,hE,it,il⟩;replace a7:=HS.back ci V a7;replace hT:=hT.mono ay;replace E:=E.mono ay;replace N:=N.mono ay;refine cj 5 2 43 44 [5,6,40] [(5,(sL g0 x9.length g2))] Hn_ (by kernel_rfl) V fun _=>?_
 refine ae 2 V ?_;have bk:BkF c x9 _:=(by assumption:bT c=true->BkF c x9 _) hv;have mX:=bk.lx;have fd:Lst ((x9).getD 0 default) (LIn c 0):=bk.hx 0 M;obtain⟨g9,em⟩:=Sv.view (SR.sv ea a7);have iz:=fL (em 0);refine wrp 1 45 49 [] [(49,(.bool (decide ((0:Int)<((x9.getD 0 default).length:Int)))))] (Ha_ (Sv.ix (j:=0) (SR.sv ea a7) e_ M) (Hl_ 2 (ql 22 0 (vL (em 0) M) V V) Hn_)) (by kernel_rfl) V fun _=>?_
 refine az 1 3 (v:=(decide ((0:Int)<((x9.getD 0 default).length:Int)))) V V V V (fun c5=>?_) (fun c5=>?_)
 ·try simp only[BS]at c5
  have ai: ¬SndP c a:=fun h=>(in_some fd M M).elim fun r hr=>h.z r hr
  refine wT 1 [] 4 4 [] [(4,(.bool false))] V fun _=>?_
  refine am ⟨.inr V,_,V,false,_,(fT (ag) ay),(HS.forget a7),V,(by first|exact gx ai|exact bP_y ao)⟩
 try simp only[BS]at c5
 have hz: ∀r,¬ptS c 0 0 r:=in_none fd M M;refine bF 2 50 53 [] [(51,(sL al a.locs.length ax)),(52,(iI (a.locs.length:Int))),(53,(iI 0))] (Hr_ 1 1 Hn_) a7 V V fun _=>?_
 let b5:Fp:=(fP b1 [(iI c.params),(iI c.regs),(sL a8 c.blocks.length bz)])
 let b6:Fp:=(fP b3 [(sL al a.locs.length ax),(sL b7 a.spi.length ch),(iI a.slots)])
 refine ah (fun(mm:Nat) f H'=> ∃(k:Nat) (F':Fz),Fz.le F9 F'/\HS (Base.of H []) F' H' [b5,b6] R/\aA f [(2,(pT b1 0)),(3,(pT b3 0)),(51,(sL al a.locs.length ax)),(52,(iI (a.locs.length:Int))),(53,(iI (k:Int)))]/\mm=a.locs.length-k/\(k<=a.locs.length)/\(∀q,q<k->okL c a (cH a q))) _ ⟨0,_,fR,a7,(agC V (agC V (agC V (agC V (agC V agN))))),V,(by first|assumption|omega|(simp at *;omega)),(by exact fun q h=>absurd h (a0t _))⟩ ?_;rintro hF h5 hQ ⟨k,f7,a_,av,dv,rfl,hk,hok⟩ f2;refine ap _ dv (fun _=>?_);clear dv;replace hT:=hT.mono a_;replace E:=E.mono a_;replace N:=N.mono a_;refine aj 1 V ?_;refine wT 2 [] 54 54 [] [(54,(.bool (decide ((k:Int)<(a.locs.length:Int)))))] V fun _=>?_
 refine az 4 6 (v:=(decide ((k:Int)<(a.locs.length:Int)))) V V V V (fun c7=>?_) (fun c7=>?_)
 ·try simp only[BS]at c7
  refine aa ?_;obtain⟨ha,et⟩:=Sv.view (SR.sv E av);have g4:=LocT.fx (et k);refine cj 2 0 55 56 [] [(56,(aG [(.bool (a.locs.getD k default).inS),(iI (a.locs.getD k default).idx)]))] (Ha_ (Sv.ix (j:=(k:Int)) (SR.sv E av) M M) (Hl_ 1 (qn 64 0 2 (LocT.vw (et k) M) V V V V) Hn_)) (by kernel_rfl) V fun _=>?_
  refine zn av V fun e6 hR f1=>?_
  refine sgo 1 3 1 0 [] [] (Hr_ 3 2 Hn_) f1 V V fun hh hS a9=>?_
  refine ae 2 V ?_;refine wT 3 [] 1 0 [9,10] [(9,(iI 0)),(10,(iI 5))] V fun _=>?_
  refine bF 1 57 58 [] [(58,(.bool (a.locs.getD k default).inS))] (Hr_ 1 2 Hn_) a9 V V fun _=>?_
  refine bH (fun f H'=> ∃(lo:Int) (hi:Int) (F':Fz),Fz.le f7 F'/\HS (Base.of H []) F' H' [b5,b6,(fP e6 [(.bool (a.locs.getD k default).inS),(iI (a.locs.getD k default).idx)])] R/\aA f [(2,(pT b1 0)),(3,(pT b3 0)),(8,(pT e6 0)),(9,(iI lo)),(10,(iI hi)),(51,(sL al a.locs.length ax)),(52,(iI (a.locs.length:Int))),(53,(iI (k:Int)))]/\(((a.locs.getD k default).inS=true/\lo=c.params/\hi=a.slots)\/((a.locs.getD k default).inS=false/\lo=0/\hi=5))/\(in64 lo)/\(in64 hi)) (fun e3=>?_) ?_
  ·refine az 0 0 (v:=(a.locs.getD k default).inS) V V V V (fun c8=>?_) (fun c8=>?_)
   ·try simp only[BS]at c8
    refine sdr0 0 59 62 [9,10] [(9,(iI c.params)),(10,(iI a.slots))] (Hr_ 1 0 (Hr_ 3 1 Hn_)) a9 V V V fun _=>?_
    exact e3 _ _ ⟨c.params,a.slots,_,fR,a9,(agC V (agC V (agC V (agC V (agC V (agC V (agC V (agC V agN)))))))),(by first|exact .inl ⟨by assumption,V,V⟩|exact .inr ⟨by assumption,V,V⟩|exact .inl ⟨by simp_all,V,V⟩|exact .inr ⟨by simp_all,V,V⟩),(by first|assumption|omega|(simp at *;omega)),(by first|assumption|omega|(simp at *;omega))⟩
   try simp only[BS]at c8
   exact e3 _ _ ⟨0,5,_,fR,a9,(agC V (agC V (agC V (agC V (agC V (agC V (agC V (agC V agN)))))))),(by first|exact .inl ⟨by assumption,V,V⟩|exact .inr ⟨by assumption,V,V⟩|exact .inl ⟨by simp_all,V,V⟩|exact .inr ⟨by simp_all,V,V⟩),(by first|assumption|omega|(simp at *;omega)),(by first|assumption|omega|(simp at *;omega))⟩
  skip;rintro h6 hV ⟨lo,hi,hJ,ds,bb,d1,hlh,rlo,rhi⟩;refine ap _ d1 (fun _=>?_);clear d1;refine aj 2 V ?_;refine bF 1 63 72 [] [(72,(.bool ((decide ((a.locs.getD k default).idx<lo))||(decide (hi<=(a.locs.getD k default).idx)))))] (Hr_ 1 2 (bt 6 (fun _=>(ql 3 1 (i_ bb V) V V)) Hn_)) bb V V fun _=>?_
  refine az 1 2 (v:=((decide ((a.locs.getD k default).idx<lo))||(decide (hi<=(a.locs.getD k default).idx)))) V V V V (fun a2=>?_) (fun a2=>?_)
  ·have c9:=a2;try simp only[BS]at c9
   have ai: ¬SndP c a:=fun h=>ok_no hlh a2 (h.loc k M)
   refine wT 1 [] 4 4 [] [(4,(.bool false))] V fun _=>?_
   refine am ⟨.inr V,_,V,false,_,(fT (fT (fT (ag) ay) a_) ds),(HS.forget bb),V,(by first|exact gx ai|exact bP_y ao)⟩
  have c9:=a2;try simp only[BS]at c9
  have k0:okL c a (cH a k):=ok_yes hlh a2;refine wU 1 [] 53 53 [73] [(53,(iI ((k:Int)+1)))] (vi (n:=(k:Int)+1) M) V fun _=>?_
  refine f2 _ _ _ ?_ ⟨k+1,_,(fT (a_) ds),(HS.sub bb (a02 _ _)),(agC V (agC V (agC V (agC V (agC V agN))))),V,(by first|assumption|omega|(simp at *;omega)),(by exact bX hok k0)⟩;omega
 try simp only[BS]at c7
 refine aa ?_;refine bn 1 0 74 74 [] [(74,e5)] (Hr_ 0 0 Hn_) av V V fun _=>?_
 refine aH (aq V V V) V V (nb.inter_c ex c (HS.call av) M M N hT X) ?_;rintro _ hW ⟨c4,e4,A,f8,ar,b9,rfl,a0,ht,hl⟩;replace b9:=HS.back av V b9;refine cj 2 2 76 77 [] [(76,(iI (A.length:Int))),(77,(iI 0))] Hn_ (by kernel_rfl) V fun _=>?_
 refine ae 2 V ?_;refine ah (fun(mm:Nat) f H'=> ∃(r:Nat) (F':Fz),Fz.le f8 F'/\HS (Base.of H []) F' H' [b5,b6] R/\aA f [(2,(pT b1 0)),(3,(pT b3 0)),(75,(sL c4 A.length e4)),(76,(iI (A.length:Int))),(77,(iI (r:Int)))]/\mm=a.locs.length-r/\(r<=a.locs.length)/\(∀q,q<r->∀y,Sy (ie c) q y->cH a q≠cH a y)) _ ⟨0,_,fR,b9,(agC V (agC V (agC V (agC V (agC V agN))))),V,(by first|assumption|omega|(simp at *;omega)),(by exact fun q h=>absurd h (a0t _))⟩ ?_;rintro hG h7 hX ⟨r,f9,Z,aw,d2,rfl,hr,hdi⟩ f3;refine ap _ d2 (fun _=>?_);clear d2;replace hT:=(hT.mono ar).mono Z;replace E:=(E.mono ar).mono Z;replace N:=(N.mono ar).mono Z;replace a0:=a0.mono Z;refine aj 1 V ?_;have kc:=(by assumption:bT c=true->InF c A) hv;have mW:=kc.len;refine wT 2 [] 78 78 [] [(78,(.bool (decide ((r:Int)<(A.length:Int)))))] V fun _=>?_
 refine az 4 6 (v:=(decide ((r:Int)<(A.length:Int)))) V V V V (fun dd=>?_) (fun dd=>?_)
 ·try simp only[BS]at dd
  have c0:Lst ((A).getD r default) (Sy (ie c) r):=kc.row r M;have m0:=Lst.len c0 kd.1 (fun y h=>(fQ vF h));have l1:=eX c0 (fun y h=>(fQ vF h));obtain⟨an,ez⟩:=Sv.view (SR.sv a0 aw);have co:=fL (ez r);refine wrp 2 79 81 [11,12] [(11,(iI (r:Int))),(12,(sL (cA (an r) 0) (A.getD r default).length (cK (an r) 0)))] (Ha_ (Sv.ix (j:=(r:Int)) (SR.sv a0 aw) M M) (Hl_ 2 (ql 22 0 (vL (ez r) M) V V) Hn_)) (by kernel_rfl) V fun _=>?_
  refine wT 2 [] 82 84 [] [(82,(sL (cA (an r) 0) (A.getD r default).length (cK (an r) 0))),(83,(iI ((A.getD r default).length:Int))),(84,(iI 0))] V fun _=>?_
  refine ah (fun(mm:Nat) f H'=> ∃(j:Nat) (F':Fz),Fz.le f9 F'/\HS (Base.of H []) F' H' [b5,b6] R/\aA f [(2,(pT b1 0)),(3,(pT b3 0)),(11,(iI (r:Int))),(75,(sL c4 A.length e4)),(76,(iI (A.length:Int))),(77,(iI (r:Int))),(82,(sL (cA (an r) 0) (A.getD r default).length (cK (an r) 0))),(83,(iI ((A.getD r default).length:Int))),(84,(iI (j:Int)))]/\mm=((A).getD r default).length-j/\(j<=((A).getD r default).length)/\(∀p,p<j->cH a r≠cH a (((A).getD r default).getD p 0).toNat)) _ ⟨0,_,fR,aw,(agC V (agC V (agC V (agC V (agC V (agC V (agC V (agC V (agC V agN))))))))),V,(by first|assumption|omega|(simp at *;omega)),(by exact fun q h=>absurd h (a0t _))⟩ ?_;rintro hH h8 hY ⟨j,hK,a4,U,d3,rfl,hj,hdj⟩ f4;refine ap _ d3 (fun _=>?_);clear d3;replace E:=E.mono a4;replace co:=co.mono a4;refine aj 1 V ?_;refine wT 2 [] 85 85 [] [(85,(.bool (decide ((j:Int)<((A.getD r default).length:Int)))))] V fun _=>?_
  refine az 4 5 (v:=(decide ((j:Int)<((A.getD r default).length:Int)))) V V V V (fun dk=>?_) (fun dk=>?_)
  ·try simp only[BS]at dk
   have m8:=dm l1 (k:=j) M;have l3:=lst_at c0 (p:=j) M;obtain⟨hb,e0⟩:=Sv.view (SR.sv co U);have ib:=fI (e0 j);refine wrp 2 86 87 [14] [(14,(iI ((A.getD r default).getD j 0)))] (Ha_ (Sv.ix (j:=(j:Int)) (SR.sv co U) M M) (Hl_ 1 (ql 3 0 (vI (e0 j) M) V V) Hn_)) (by kernel_rfl) V fun _=>?_
   obtain⟨he,bl⟩:=Sv.view (SR.sv E U);have g5:=LocT.fx (bl r);have g6:=LocT.fx (bl ((A.getD r default).getD j 0).toNat);refine sdr0 1 88 98 [] [(98,(.bool (((a.locs.getD r default).inS==(a.locs.getD ((A.getD r default).getD j 0).toNat default).inS)&&(((a.locs.getD r default).idx==(a.locs.getD ((A.getD r default).getD j 0).toNat default).idx)&&true))))] (Hr_ 1 1 (Ha_ (Sv.ix (j:=(r:Int)) (SR.sv E U) M M) (Hl_ 4 (qn 64 0 2 (hc0 (LocT.vw (bl r) M)) V V V V) (Hr_ 6 1 (Ha_ (Sv.ix (j:=((A.getD r default).getD j 0)) (SR.sv E U) M M) (Hl_ 9 (qn 64 0 2 (hc0 (LocT.vw (bl ((A.getD r default).getD j 0).toNat) M)) V V V V) (Ho_ 10 (.o (.bool (((a.locs.getD r default).inS==(a.locs.getD ((A.getD r default).getD j 0).toNat default).inS)&&(((a.locs.getD r default).idx==(a.locs.getD ((A.getD r default).getD j 0).toNat default).idx)&&true)))) (agEq (P:=Tryd.prog) (t:=64) (xs:=[(.bool (a.locs.getD r default).inS),(iI (a.locs.getD r default).idx)]) (ys:=[(.bool (a.locs.getD ((A.getD r default).getD j 0).toNat default).inS),(iI (a.locs.getD ((A.getD r default).getD j 0).toNat default).idx)]) (bs:=[((a.locs.getD r default).inS==(a.locs.getD ((A.getD r default).getD j 0).toNat default).inS),((a.locs.getD r default).idx==(a.locs.getD ((A.getD r default).getD j 0).toNat default).idx)]) V V V (by kernel_rfl) (by kernel_rfl) (.cons ⟨by decide,_,_,V,V,eqB V⟩ (.cons ⟨by decide,_,_,V,V,eqI V⟩ .nil))) Hn_))))))) U V V V fun _=>?_
   refine az 1 2 (v:=(((a.locs.getD r default).inS==(a.locs.getD ((A.getD r default).getD j 0).toNat default).inS)&&(((a.locs.getD r default).idx==(a.locs.getD ((A.getD r default).getD j 0).toNat default).idx)&&true))) V V V V (fun a3=>?_) (fun a3=>?_)
   ·have dl:=a3;try simp only[BS]at dl
    have ll:cH a r=cH a (((A).getD r default).getD j 0).toNat:=loc_eq a3;have ai: ¬SndP c a:=fun h=>h.dis r _ M l3 ll
    refine wT 1 [] 4 4 [] [(4,(.bool false))] V fun _=>?_
    refine am ⟨.inr V,_,V,false,_,(fT (fT (fT (fT (fT (ag) ay) a_) ar) Z) a4),(HS.forget U),V,(by first|exact gx ai|exact bP_y ao)⟩
   have dl:=a3;try simp only[BS]at dl
   have i0:cH a r≠cH a (((A).getD r default).getD j 0).toNat:=loc_nq a3;refine wU 1 [] 84 84 [99] [(84,(iI ((j:Int)+1)))] (vi (n:=(j:Int)+1) M) V fun _=>?_
   refine f4 _ _ _ ?_ ⟨j+1,_,(a4),U,(agC V (agC V (agC V (agC V (agC V (agC V (agC V (agC V (agC V agN))))))))),V,(by first|assumption|omega|(simp at *;omega)),(by exact bX hdj i0)⟩;omega
  try simp only[BS]at dk
  refine wU 1 [] 77 77 [100] [(77,(iI ((r:Int)+1)))] (vi (n:=(r:Int)+1) M) V fun _=>?_
  refine f3 _ _ _ ?_ ⟨r+1,_,(fT (Z) a4),U,(agC V (agC V (agC V (agC V (agC V agN))))),V,(by first|assumption|omega|(simp at *;omega)),(by exact bX hdi (snd_row c0 M hdj))⟩;omega
 try simp only[BS]at dd
 refine aa ?_;refine bn 1 0 101 101 [] [(101,e5)] (Hr_ 0 0 Hn_) aw V V fun _=>?_
 refine aH (aq V V V) V V (mg.across_c ex c (HS.call aw) M M N hT (by exact fun j=>a0e (c3 j) M)) ?_;rintro _ h0 ⟨fi,f6,T,g3,go,b8,cc,rfl,a1,hu,hm⟩;replace cc:=HS.back aw V cc;refine cj 2 2 103 104 [] [(103,(iI (T.length:Int))),(104,(iI 0))] Hn_ (by kernel_rfl) V fun _=>?_
 refine ae 2 V ?_;refine ah (fun(mm:Nat) f H'=> ∃(p:Nat) (F':Fz),Fz.le go F'/\HS (Base.of H []) F' H' [b5,b6,g3] R/\aA f [(3,(pT b3 0)),(102,(sL fi T.length f6)),(103,(iI (T.length:Int))),(104,(iI (p:Int)))]/\mm=(T).length-p/\(p<=(T).length)/\(∀q,q<p->(cH a ((T).getD q 0).toNat).inS=true)) _ ⟨0,_,fR,cc,(agC V (agC V (agC V (agC V agN)))),V,(by first|assumption|omega|(simp at *;omega)),(by exact fun q h=>absurd h (a0t _))⟩ ?_;rintro hI h9 h3 ⟨p,hM,a5,ad,d4,rfl,hp,dt⟩ f5;refine ap _ d4 (fun _=>?_);clear d4;replace E:=(E.mono b8).mono a5;replace a1:=a1.mono a5;refine aj 1 V ?_;have cv:=(by assumption:bT c=true->Lst T (acS c)) hv;have li:=eX cv (fun r h=>jk vF (a0b _) h);have mI:=Lst.len cv kd.1 (fun r h=>jk vF (a0b _) h);refine wT 2 [] 105 105 [] [(105,(.bool (decide ((p:Int)<(T.length:Int)))))] V fun _=>?_
 refine az 4 5 (v:=(decide ((p:Int)<(T.length:Int)))) V V V V (fun dn=>?_) (fun dn=>?_)
 ·try simp only[BS]at dn
  have m7:=dm li (k:=p) M;have l2:=lst_at cv (p:=p) M;obtain⟨hf,e1⟩:=Sv.view (OS.sv a1 ad (i:=2) V);have ih:=fI (e1 p);refine wrp 2 106 107 [16] [(16,(iI (T.getD p 0)))] (Ha_ (Sv.ix (j:=(p:Int)) (OS.sv a1 ad (i:=2) V) M M) (Hl_ 1 (ql 3 0 (vI (e1 p) M) V V) Hn_)) (by kernel_rfl) V fun _=>?_
  obtain⟨hg,e2⟩:=Sv.view (SR.sv E ad);have g7:=LocT.fx (e2 (T.getD p 0).toNat);refine bF 1 108 114 [] [(114,(.bool (!(a.locs.getD (T.getD p 0).toNat default).inS)))] (Hr_ 1 1 (Ha_ (Sv.ix (j:=(T.getD p 0)) (SR.sv E ad) M M) (Hl_ 5 (ql 4 0 (LocT.vw (e2 (T.getD p 0).toNat) M) V V) Hn_))) ad V V fun _=>?_
  refine az 1 2 (v:=(!(a.locs.getD (T.getD p 0).toNat default).inS)) V V V V (fun b4=>?_) (fun b4=>?_)
  ·try simp only[BS]at b4
   have ai: ¬SndP c a:=fun h=>by have h1:=h.acr _ l2;have h2:=b4;(unfold cH at h1;simp_all)
   refine wT 1 [] 4 4 [] [(4,(.bool false))] V fun _=>?_
   refine am ⟨.inr V,_,V,false,_,(fT (fT (fT (fT (fT (fT (ag) ay) a_) ar) Z) b8) a5),(HS.forget ad),V,(by first|exact gx ai|exact bP_y ao)⟩
  try simp only[BS]at b4
  have i0:(cH a ((T).getD p 0).toNat).inS=true:=by have h2:=b4;(unfold cH;simp_all)
  refine wU 1 [] 104 104 [115] [(104,(iI ((p:Int)+1)))] (vi (n:=(p:Int)+1) M) V fun _=>?_
  refine f5 _ _ _ ?_ ⟨p+1,_,(a5),ad,(agC V (agC V (agC V (agC V agN)))),V,(by first|assumption|omega|(simp at *;omega)),(by exact bX dt i0)⟩;omega
 try simp only[BS]at dn
 have ao:SndP c a:=⟨hv,kz,ly,lr,hz,fun q hq=>hok q M,fun q y hq=>hdi q M y,snd_acr cv M dt⟩
 refine wT 1 [] 4 4 [] [(4,(.bool true))] V fun _=>?_
 refine am ⟨.inr V,_,V,true,_,(fT (fT (fT (fT (fT (fT (ag) ay) a_) ar) Z) b8) a5),(HS.forget ad),V,(by first|exact gx ai|exact bP_y ao)⟩
theorem rsound_c{a4:Option Addr}{a6:Nat}(c:VFnT){a9:Option Addr}{b2:Nat}{a8:Option Addr}{bz:Nat}(a:AllT)(hs:HS (.of H []) F H [] R)(he:in64 c.params)(hf:in64 c.regs)(a_:SR F (sL a4 c.blocks.length a6) c.blocks)(E:SR F (sL a8 a.locs.length bz) a.locs)(ha:SR F (sL a9 a.spi.length b2) a.spi)(hb:in64 a.slots)(hT:TB 37 tabC F)(d4: ∀j,(c.blocks.getD j default).ins.length<=1073741822):kKt ex 10 [(aG [(iI c.params),(iI c.regs),(sL a4 c.blocks.length a6)]),(aG [(sL a8 a.locs.length bz),(sL a9 a.spi.length b2),(iI a.slots)])] H fun v H'=> ∃(o:Bool) (F':Fz),Fz.le F F'/\HS (.of H []) F' H' [] R/\v= .bool o/\o=bP (SndP c a):=by
 refine aC Tryd.func10 V V ?_;refine aj 1 V ?_;refine aa ?_;refine aV (aO hs V V) V V ?_;rintro _ H2 _ ⟨b1,rfl,f1,_⟩;refine aV (aO f1 V V) V V ?_;rintro _ H4 _ ⟨b3,rfl,a2,_⟩;refine wa (.bool false) V V V ?_;refine ae 3 V ?_;refine sj 1 12 34 [] [(34,(.bool ((((!(bT c))||((a.locs.length:Int) !=c.regs))||(decide (a.slots<c.params)))||(decide ((3000:Int)<a.slots)))))] (Hr_ 0 0 (Hk_ 1 (jc a2 fun _ _ j q=>m3.eQ ex c q M M (a_.mono j) (hT.mono j) (by exact fun j=>a0e (d4 j) M)) (mV 5 (fun _=>(jl a2 23 0 1 V V V)) (mV 8 (fun _=>(jl a2 3 1 0 V V V)) (mV 13 (fun _=>(jl a2 3 2 1 V V V)) (mV 15 (fun _=>(jl a2 3 0 0 V V V)) (mV 20 (fun _=>(jl a2 3 2 1 V V V)) Hn_))))))) a2 V V fun hD H5 F5 aw b6=>?_
 replace hT:=hT.mono aw;replace E:=E.mono aw;replace a_:=a_.mono aw;refine az 1 2 (v:=((((!(bT c))||((a.locs.length:Int) !=c.regs))||(decide (a.slots<c.params)))||(decide ((3000:Int)<a.slots)))) V V V V (fun a7=>?_) (fun a7=>?_)
 ·have c6:=a7;try simp only[BS]at c6
  have ai: ¬SndP c a:=snd_no0 a7;refine wT 1 [] 4 4 [] [(4,(.bool false))] V fun _=>?_
  refine am ⟨.inr V,_,V,false,_,(aw),(HS.forget b6),V,(by first|exact gx ai|exact bP_y b0)⟩
 have c6:=a7;try simp only[BS]at c6
 have fd:=snd_yes0 a7;have hv:=fd.1;have h4:=fd.2.1;have ja:=fd.2.2.1;have i3:=fd.2.2.2;have vF:=eU hv;have kt:=vF.nb;have hM:=vF.regs;have kx:=vF.params;refine aa ?_;let dl:Value:=(aG [(iI c.params),(iI c.regs),(sL a4 c.blocks.length a6)])
 refine bn 1 0 36 36 [] [(36,dl)] (Hr_ 0 0 Hn_) b6 V V fun _=>?_
 refine aH (aq V V V) V V (mi.j0 ex c (HS.call b6) M M a_ hT (by exact fun j=>a0e (d4 j) M)) ?_;rintro _ H9 ⟨e6,f2,x9,hw,hG,y9,F9,a1,al,rfl,c4,hg,hF,hE⟩;replace al:=HS.back b6 V al;replace hT:=hT.mono a1;replace E:=E.mono a1;replace a_:=a_.mono a1;refine cj 5 2 38 39 [5,6,35] [(5,(sL e6 x9.length f2))] Hn_ (by kernel_rfl) V fun _=>?_
 refine ae 3 V ?_;have bk:BkF c x9 _:=(by assumption:bT c=true->BkF c x9 _) hv;have ks:=bk.lx;have dv:Lst ((x9).getD 0 default) (LIn c 0):=bk.hx 0 M;obtain⟨f7,c5⟩:=Sv.view (SR.sv c4 al);have hH:=fL (c5 0);refine wrp 1 40 44 [] [(44,(.bool (decide ((0:Int)<((x9.getD 0 default).length:Int)))))] (Ha_ (Sv.ix (j:=0) (SR.sv c4 al) e_ M) (Hl_ 2 (ql 22 0 (vL (c5 0) M) V V) Hn_)) (by kernel_rfl) V fun _=>?_
 refine az 1 2 (v:=(decide ((0:Int)<((x9.getD 0 default).length:Int)))) V V V V (fun b8=>?_) (fun b8=>?_)
 ·try simp only[BS]at b8
  have ai: ¬SndP c a:=fun h=>(in_some dv M M).elim fun r hr=>h.z r hr
  refine wT 1 [] 4 4 [] [(4,(.bool false))] V fun _=>?_
  refine am ⟨.inr V,_,V,false,_,(fT (aw) a1),(HS.forget al),V,(by first|exact gx ai|exact bP_y b0)⟩
 try simp only[BS]at b8
 have hz: ∀r,¬ptS c 0 0 r:=in_none dv M M;refine aF V ?_;refine d8 1 45 45 [] [(45,dl)] (Hr_ 0 0 Hn_) al V V fun _=>?_
 refine aN (W:=[]) (aq V V V) V V V (ni.jA ex c (HS.call al.log0) M M a_ hT X) (⟨.inl V,trivial⟩) ?_;rintro _ e4 ⟨bb,b4,A,hl,an,Z,rfl,U,g8,g6⟩;refine⟨Wr.did Z.log,fun e0 dn=>?_⟩;replace Z:=HS.back al.log0 V Z;replace Z:=HS.lg Z al dn;generalize ({e4 with log:=e0}:Heap)=f5 at Z⊢;replace hT:=hT.mono an;replace a_:=a_.mono an;refine aK (v:=dl) (id:= .l b1) (cp (i:=0) V V V (HS.hc Z.log0 (i:=0) V) V V V) V V (cP V) (⟨.inr a0d,⟨.inr trivial,trivial⟩⟩) ?_;refine aN (W:=[]) (aq V V V) V V V (mj.rac_c ex c (HS.call Z.log0) M M a_ hT (by exact fun j=>a0e (d4 j) M)) (⟨.inl V,⟨.inl V,⟨.inl V,trivial⟩⟩⟩) ?_;rintro _ e5 ⟨bl,b5,a3,e2,ar,ag,rfl,a5,g9,g7⟩;refine⟨Wr.did ag.log,fun e1 ds=>?_⟩;replace ag:=HS.back Z.log0 V ag;replace ag:=HS.lg ag Z ds;generalize ({e5 with log:=e1}:Heap)=f6 at ag⊢;refine d8 2 1 0 [7,8] [(7,(sL bb A.length b4)),(8,(sL bl a3.length b5))] Hn_ ag V V fun _=>?_
 refine bB 3 V ?_;have hK:=(by assumption:bT c=true->InF c A) hv;have kr:=hK.len;have cv:=(by assumption:bT c=true->Lst a3 (acS c)) hv;have ko:=Lst.len cv hM.1 (fun r h=>jk vF (a0b _) h);refine wT 2 [] 1 0 [9] [(9,(iI 0))] V fun _=>?_
 let d2:Fp:=(fP b1 [(iI c.params),(iI c.regs),(sL a4 c.blocks.length a6)])
 let d3:Fp:=(fP b3 [(sL a8 a.locs.length bz),(sL a9 a.spi.length b2),(iI a.slots)])
 refine ah (fun(mm:Nat) f H'=> ∃(r:Nat) (F':Fz),Fz.le e2 F'/\HS (Base.of H []) F' H' [d2,d3] R/\aA f [(2,(pT b1 0)),(3,(pT b3 0)),(7,(sL bb A.length b4)),(8,(sL bl a3.length b5)),(9,(iI (r:Int)))]/\mm=a.locs.length-r/\(r<=a.locs.length)/\(∀q,q<r->okL c a (cH a q))/\(∀q,q<r->acS c q->(cH a q).inS=true)/\(∀q,q<r->∀y,Sy (ie c) q y->cH a q≠cH a y)) _ ⟨0,_,fR,ag,(agC V (agC V (agC V (agC V (agC V agN))))),V,(by first|assumption|omega|(simp at *;omega)),(by exact fun q h=>absurd h (a0t _)),(by exact fun q h=>absurd h (a0t _)),(by exact fun q h=>absurd h (a0t _))⟩ ?_;rintro hh hA hn ⟨r,e3,ad,av,c0,rfl,hr,hok,co,hdi⟩ et;refine ap _ c0 (fun _=>?_);clear c0;replace hT:=(hT.mono ar).mono ad;replace E:=((E.mono an).mono ar).mono ad;replace U:=(U.mono ar).mono ad;replace a5:=a5.mono ad;refine aj 2 V ?_;refine bF 1 49 52 [] [(52,(.bool (decide ((r:Int)<c.regs))))] (Hr_ 2 0 Hn_) av V V fun _=>?_
 refine az 4 5 (v:=(decide ((r:Int)<c.regs))) V V V V (fun b9=>?_) (fun b9=>?_)
 ·try simp only[BS]at b9
  have b7:Lst ((A).getD r default) (Sy (ie c) r):=hK.row r M;have ky:=Lst.len b7 hM.1 (fun y h=>(fQ vF h));have jw:=eX b7 (fun y h=>(fQ vF h));refine aa ?_;obtain⟨f8,c7⟩:=Sv.view (SR.sv E av);have f3:=LocT.fx (c7 r);refine bn 5 0 55 59 [] [(59,(aG [(.bool (a.locs.getD r default).inS),(iI (a.locs.getD r default).idx)]))] (Hr_ 1 1 (Ha_ (Sv.ix (j:=(r:Int)) (SR.sv E av) M M) (Hl_ 4 (qn 64 0 2 (LocT.vw (c7 r) M) V V V V) Hn_))) av V V fun _=>?_
  refine zn av V fun dt hp em=>?_
  refine sgo 1 6 1 0 [] [] (Hr_ 6 2 Hn_) em V V fun g5 ht T=>?_
  refine ae 3 V ?_;refine bF 1 60 95 [] [(95,(.bool (((a.locs.getD r default).inS&&((decide ((a.locs.getD r default).idx<c.params))||(decide (a.slots<=(a.locs.getD r default).idx))))||((!(a.locs.getD r default).inS)&&(((decide ((a.locs.getD r default).idx<0))||(decide ((5:Int)<=(a.locs.getD r default).idx)))||bS a3 (r:Int))))))] (Hr_ 1 2 (bt 4 (fun _=>(ql 3 1 (i_ T V) V V)) (bt 6 (fun _=>(ql 3 0 (g_ T V) V V)) (Hl2_ 10 (fun _ _=>(ql 3 1 (i_ T V) V V)) (Hl2_ 12 (fun _ _=>(ql 3 2 (h_ T V) V V)) (bt 18 (fun _=>(ql 4 0 (i_ T V) V V)) (Hl2_ 22 (fun _ _=>(ql 3 1 (i_ T V) V V)) (Hl3_ 26 (fun _ _ _=>(ql 3 1 (i_ T V) V V)) (Hc3_ 32 (fun g1 g2 g3=>(m6.bQ ex a3 (r:Int) (HS.call T) a5 (by(try simp only[BS]at g1 g2 g3);(first|(dsimp only;omega)|omega)) hT (by(try simp only[BS]at g1 g2 g3);(first|(dsimp only;omega)|omega)))) Hn_))))))))) T V V fun _=>?_
  refine az 1 2 (v:=(((a.locs.getD r default).inS&&((decide ((a.locs.getD r default).idx<c.params))||(decide (a.slots<=(a.locs.getD r default).idx))))||((!(a.locs.getD r default).inS)&&(((decide ((a.locs.getD r default).idx<0))||(decide ((5:Int)<=(a.locs.getD r default).idx)))||bS a3 (r:Int))))) V V V V (fun ax=>?_) (fun ax=>?_)
  ·have cc:=ax;try simp only[BS]at cc
   have ai: ¬SndP c a:=rok_no cv M ax;refine wT 1 [] 4 4 [] [(4,(.bool false))] V fun _=>?_
   refine am ⟨.inr V,_,V,false,_,(fT (fT (fT (fT (aw) a1) an) ar) ad),(HS.forget T),V,(by first|exact gx ai|exact bP_y b0)⟩
  have cc:=ax;try simp only[BS]at cc
  have gb:=rok_yes (c:=c) (a:=a) cv ax;refine wT 2 [] 1 0 [11] [(11,(iI 0))] V fun _=>?_
  refine ah (fun(mm:Nat) f H'=> ∃(j:Nat) (F':Fz),Fz.le e3 F'/\HS (Base.of H []) F' H' [d2,d3,(fP dt [(.bool (a.locs.getD r default).inS),(iI (a.locs.getD r default).idx)])] R/\aA f [(2,(pT b1 0)),(3,(pT b3 0)),(7,(sL bb A.length b4)),(8,(sL bl a3.length b5)),(9,(iI (r:Int))),(10,(pT dt 0)),(11,(iI (j:Int)))]/\mm=((A).getD r default).length-j/\(j<=((A).getD r default).length)/\(∀p,p<j->cH a r≠cH a (((A).getD r default).getD p 0).toNat)) _ ⟨0,_,fR,T,(agC V (agC V (agC V (agC V (agC V (agC V (agC V agN))))))),V,(by first|assumption|omega|(simp at *;omega)),(by exact fun q h=>absurd h (a0t _))⟩ ?_;rintro hk hB hu ⟨j,hm,a0,N,c3,rfl,hj,hdj⟩ ez;refine ap _ c3 (fun _=>?_);clear c3;replace E:=E.mono a0;replace U:=U.mono a0;refine aj 2 V ?_;obtain⟨f9,c8⟩:=Sv.view (SR.sv U N);have hI:=fL (c8 r);refine wrp 1 96 102 [] [(102,(.bool (decide ((j:Int)<((A.getD r default).length:Int)))))] (Ha_ (Sv.ix (j:=(r:Int)) (SR.sv U N) M M) (Hl_ 4 (ql 22 0 (vL (c8 r) M) V V) Hn_)) (by kernel_rfl) V fun _=>?_
  refine az 4 5 (v:=(decide ((j:Int)<((A.getD r default).length:Int)))) V V V V (fun ch=>?_) (fun ch=>?_)
  ·try simp only[BS]at ch
   have kz:=dm jw (k:=j) M;have kc:=lst_at b7 (p:=j) M;obtain⟨go,c9⟩:=Sv.view (SR.sv U N);have d1:=fL (c9 r);obtain⟨g0,dd⟩:=Sv.view (SR.sv d1 N);have hC:=fI (dd j);obtain⟨g4,dk⟩:=Sv.view (SR.sv E N);have f4:=LocT.fx (dk ((A.getD r default).getD j 0).toNat);refine sdr0 1 105 117 [] [(117,(.bool (((a.locs.getD ((A.getD r default).getD j 0).toNat default).inS==(a.locs.getD r default).inS)&&(((a.locs.getD ((A.getD r default).getD j 0).toNat default).idx==(a.locs.getD r default).idx)&&true))))] (Hr_ 1 1 (Ha_ (Sv.ix (j:=(r:Int)) (SR.sv U N) M M) (Hl_ 5 (ql 22 0 (hc0 (vL (c9 r) M)) V V) (Ha_ (Sv.ix (j:=(j:Int)) (SR.sv d1 N) M M) (Hl_ 8 (ql 3 0 (hc0 (vI (dd j) M)) V V) (Ha_ (Sv.ix (j:=((A.getD r default).getD j 0)) (SR.sv E N) M M) (Hl_ 10 (qn 64 0 2 (hc0 (LocT.vw (dk ((A.getD r default).getD j 0).toNat) M)) V V V V) (Hr_ 11 2 (Ho_ 12 (.o (.bool (((a.locs.getD ((A.getD r default).getD j 0).toNat default).inS==(a.locs.getD r default).inS)&&(((a.locs.getD ((A.getD r default).getD j 0).toNat default).idx==(a.locs.getD r default).idx)&&true)))) (agEq (P:=Tryd.prog) (t:=64) (xs:=[(.bool (a.locs.getD ((A.getD r default).getD j 0).toNat default).inS),(iI (a.locs.getD ((A.getD r default).getD j 0).toNat default).idx)]) (ys:=[(.bool (a.locs.getD r default).inS),(iI (a.locs.getD r default).idx)]) (bs:=[((a.locs.getD ((A.getD r default).getD j 0).toNat default).inS==(a.locs.getD r default).inS),((a.locs.getD ((A.getD r default).getD j 0).toNat default).idx==(a.locs.getD r default).idx)]) V V V (by kernel_rfl) (by kernel_rfl) (.cons ⟨by decide,_,_,V,V,eqB V⟩ (.cons ⟨by decide,_,_,V,V,eqI V⟩ .nil))) Hn_))))))))) N V V V fun _=>?_
   refine az 1 2 (v:=(((a.locs.getD ((A.getD r default).getD j 0).toNat default).inS==(a.locs.getD r default).inS)&&(((a.locs.getD ((A.getD r default).getD j 0).toNat default).idx==(a.locs.getD r default).idx)&&true))) V V V V (fun ay=>?_) (fun ay=>?_)
   ·have ci:=ay;try simp only[BS]at ci
    have i2:cH a (((A).getD r default).getD j 0).toNat=cH a r:=loc_eq ay;have ai: ¬SndP c a:=fun h=>h.dis r _ M kc i2.symm
    refine wT 1 [] 4 4 [] [(4,(.bool false))] V fun _=>?_
    refine am ⟨.inr V,_,V,false,_,(fT (fT (fT (fT (fT (aw) a1) an) ar) ad) a0),(HS.forget N),V,(by first|exact gx ai|exact bP_y b0)⟩
   have ci:=ay;try simp only[BS]at ci
   have jb:cH a r≠cH a (((A).getD r default).getD j 0).toNat:=fun e=>loc_nq ay e.symm
   refine wU 1 [] 103 104 [11] [(11,(iI ((j:Int)+1)))] (vi (n:=(j:Int)+1) M) V fun _=>?_
   refine ez _ _ _ ?_ ⟨j+1,_,(a0),N,(agC V (agC V (agC V (agC V (agC V (agC V (agC V agN))))))),V,(by first|assumption|omega|(simp at *;omega)),(by exact bX hdj jb)⟩;omega
  try simp only[BS]at ch
  refine wU 1 [] 53 54 [9] [(9,(iI ((r:Int)+1)))] (vi (n:=(r:Int)+1) M) V fun _=>?_
  refine et _ _ _ ?_ ⟨r+1,_,(fT (ad) a0),(HS.sub N (a02 _ _)),(agC V (agC V (agC V (agC V (agC V agN))))),V,(by first|assumption|omega|(simp at *;omega)),(by exact bX hok gb.1),(by exact bX co gb.2),(by exact bX hdi (snd_row b7 M hdj))⟩;omega
 try simp only[BS]at b9
 have b0:SndP c a:=⟨hv,h4,ja,i3,hz,fun q hq=>hok q M,fun q y hq=>hdi q M y,fun q hq=>co q (by(have h2:=jk vF (a0b _) hq;omega)) hq⟩
 refine wT 1 [] 4 4 [] [(4,(.bool true))] V fun _=>?_
 refine am ⟨.inr V,_,V,true,_,(fT (fT (fT (fT (aw) a1) an) ar) ad),(HS.forget av),V,(by first|exact gx ai|exact bP_y b0)⟩
end Go.Proofs.YtgdggmlghemecaaDoor.nv
