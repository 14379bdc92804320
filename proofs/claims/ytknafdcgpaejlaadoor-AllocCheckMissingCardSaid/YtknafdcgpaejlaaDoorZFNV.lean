/-
Soundness of an allocation. No condition but bounds on lengths.
-/
import Derived.Test.YtknafdcgpaejlaaDoorZFNI
noncomputable section
namespace Go.Proofs.YtknafdcgpaejlaaDoor.nv
open Go.R
set_option maxRecDepth 10000
set_option linter.unusedVariables false
set_option linter.unusedSimpArgs false
variable (ex:FuncId) {F:Fz} {H:Heap} {R:List Fp}
structure LocT where
 inS:Bool
 idx:Int
 deriving Inhabited,DecidableEq
instance :Rp LocT where
 sz:=2
 rep F cs x:=cs=[.bool x.inS,.int .i64 x.idx]/\in64 x.idx
 len:=by rintro F cs x ⟨rfl,_⟩;rfl
 one:=by rintro F cs x ⟨rfl,_⟩;rfl
 mono:=by intro F F' cs x _ h;exact h
theorem LocT.vw{F:Fz}{get:Nat->Option AObj}{v:Value}{cf:Nat->List Value}{j:Nat}{l:List LocT}(h:VW F get v l cf j)(z:j<l.length:=by first|(dsimp only;omega)|omega):HC get (sB v) (sO v+j*Rp.sz LocT) [.bool (l.getD j default).inS,.int .i64 (l.getD j default).idx]:=by obtain⟨⟨E,_⟩,A⟩:=h.1 default z;rw[show cf j=_ from E]at A;exact A
theorem LocT.fx{F:Fz}{get:Nat->Option AObj}{v:Value}{cf:Nat->List Value}{j:Nat}{l:List LocT}(h:VW F get v l cf j):in64 (l.getD j default).idx:=by
 rcases a0k j l.length with hj|hj
 ·obtain⟨⟨E,A⟩,_⟩:=h.1 default hj;exact A
 rw[cI hj];decide
structure SpiT where
 reg:Int
 why:Int
 blk:Int
 idx:Int
 oth:(List Int)
 deriving Inhabited,DecidableEq
instance :Rp SpiT where
 sz:=5
 rep F cs x:= ∃a4 k4,cs=[.int .i64 x.reg,.int .i64 x.why,.int .i64 x.blk,.int .i64 x.idx,.slice a4 x.oth.length k4]/\in64 x.reg/\in64 x.why/\in64 x.blk/\in64 x.idx/\SR F (.slice a4 x.oth.length k4) x.oth
 len:=by rintro F cs x ⟨a4,k4,rfl,_⟩;rfl
 one:=by rintro F cs x ⟨a4,k4,rfl,_⟩;rfl
 mono:=by rintro F F' cs x hF ⟨a4,k4,rfl,h0,h1,h2,h3,h4⟩;exact⟨a4,k4,rfl,h0,h1,h2,h3,h4.mono hF⟩
theorem SpiT.vw{F:Fz}{get:Nat->Option AObj}{v:Value}{cf:Nat->List Value}{j:Nat}{l:List SpiT}(h:VW F get v l cf j)(z:j<l.length:=by first|(dsimp only;omega)|omega):HC get (sB v) (sO v+j*Rp.sz SpiT) [.int .i64 (l.getD j default).reg,.int .i64 (l.getD j default).why,.int .i64 (l.getD j default).blk,.int .i64 (l.getD j default).idx,sL (cA (cf j) 4) (l.getD j default).oth.length (cK (cf j) 4)]:=by obtain⟨⟨N,T,E,_⟩,A⟩:=h.1 default z;rw[show cf j=_ from E]at A⊢;exact A
theorem SpiT.fx{F:Fz}{get:Nat->Option AObj}{v:Value}{cf:Nat->List Value}{j:Nat}{l:List SpiT}(h:VW F get v l cf j):in64 (l.getD j default).reg/\in64 (l.getD j default).why/\in64 (l.getD j default).blk/\in64 (l.getD j default).idx/\SR F (sL (cA (cf j) 4) (l.getD j default).oth.length (cK (cf j) 4)) (l.getD j default).oth:=by
 rcases a0k j l.length with hj|hj
 ·obtain⟨⟨Z,z,A,E,N,T,U,V⟩,_⟩:=h.1 default hj;rw[show cf j=_ from A];exact⟨E,N,T,U,V⟩
 rw[cI hj,h.2 hj];exact⟨by decide,by decide,by decide,by decide,SR.nil⟩
structure AllT where
 locs:(List LocT)
 spi:(List SpiT)
 slots:Int
 deriving Inhabited,DecidableEq
instance :Rp AllT where
 sz:=3
 rep F cs x:= ∃a0 k0 a1 k1,cs=[.slice a0 x.locs.length k0,.slice a1 x.spi.length k1,.int .i64 x.slots]/\in64 x.slots/\SR F (.slice a0 x.locs.length k0) x.locs/\SR F (.slice a1 x.spi.length k1) x.spi
 len:=by rintro F cs x ⟨a0,k0,a1,k1,rfl,_⟩;rfl
 one:=by rintro F cs x ⟨a0,k0,a1,k1,rfl,_⟩;rfl
 mono:=by rintro F F' cs x hF ⟨a0,k0,a1,k1,rfl,h0,h1,h2⟩;exact⟨a0,k0,a1,k1,rfl,h0,h1.mono hF,h2.mono hF⟩
open m1 m2 m3 m4 m5 m6 ma ml mb mc md mf mg mh mi mj na nb nc ni
theorem gu{c:VFnT}{l:List Int}{S:Nat->Prop}(h:Lst l S)(hs: ∀r,S r->(r:Int)<c.regs): ∀x∈l,0<=x/\x<c.regs:=fun x z=>by obtain⟨E,A⟩:=(h.mem x).1 z;have:=hs _ A;omega
theorem lst_some{l:List Int}{S:Nat->Prop}(h:Lst l S)(z:0<l.length): ∃r,S r:=by
 cases l with
 |nil=>exact absurd z (Nat.lt_irrefl _)
 |cons x l=>exact⟨_,((h.mem x).1 (a0r ..)).2⟩
theorem inte_lt{c:VFnT}(v:VF c){a x:Nat}(h:eP c a x):(a:Int)<c.regs/\(x:Int)<c.regs:=by obtain⟨b,i,A,E,N,T,_⟩:=h;exact⟨((bu (v.ins b A i E)).2.1 _ N).2,cz v A T⟩
theorem iD{c:VFnT}(v:VF c){r y:Nat}(h:Sy (eP c) r y):(y:Int)<c.regs:=h.elim (fun h=>(inte_lt v h).2) fun h=>(inte_lt v h).1
theorem in_some{c:VFnT}{x:List (List Int)}(h:Lst (x.getD 0 default) (LIn c 0))(z:0<c.blocks.length)(A:0<(x.getD 0 default).length): ∃r,ptS c 0 0 r:=by obtain⟨r,E⟩:=lst_some h A;exact⟨r,(pt_in z _).2 E⟩
theorem in_none{c:VFnT}{x:List (List Int)}(h:Lst (x.getD 0 default) (LIn c 0))(z:0<c.blocks.length)(N: ¬0<(x.getD 0 default).length): ∀r,¬ptS c 0 0 r:=fun r E=>by have:=(pt_in z _).1 E;have A:=List.length_pos_of_mem ((h.mem (r:Int)).2 ⟨by omega,by rw[show((r:Nat):Int).toNat=r by omega];exact this⟩);omega
def okL(c:VFnT)(a:AllT)(x:LocT):Prop:=(x.inS=true->c.params<=x.idx/\x.idx<a.slots)/\(x.inS=false->0<=x.idx/\x.idx<5)
def ft(a:AllT)(r:Nat):LocT:=a.locs.getD r default
structure SndP(c:VFnT)(a:AllT):Prop where
 val:bP c=true
 len:(a.locs.length:Int)=c.regs
 lo:c.params<=a.slots
 hi:a.slots<=3000
 z: ∀r,¬ptS c 0 0 r
 loc: ∀q,q<a.locs.length->okL c a (ft a q)
 dis: ∀q y,q<a.locs.length->Sy (eP c) q y->ft a q≠ft a y
 acr: ∀r,acS c r->(ft a r).inS=true
theorem cr{P:Nat->Prop}{k:Nat}(h: ∀q,q<k->P q)(z:P k): ∀q,q<k+1->P q:=fun q E=>by
 rcases a1Z (Nat.le_of_lt_succ E) with A|rfl
 ·exact h q A
 exact z
theorem snd_row{c:VFnT}{a:AllT}{z:List Int}{r n:Nat}(A:Lst z (Sy (eP c) r))(U:z.length<=n)(h: ∀p,p<n->ft a r≠ft a (z.getD p 0).toNat): ∀y,Sy (eP c) r y->ft a r≠ft a y:=fun y T=>by have E:=(A.mem (y:Int)).2 ⟨by omega,by rw[show((y:Nat):Int).toNat=y by omega];exact T⟩;obtain⟨p,N,e⟩:=List.getElem_of_mem E;have:=h p (by omega);rw[a01,a05 N,a0C,e]at this;rwa [show((y:Nat):Int).toNat=y by omega]at this
theorem snd_acr{c:VFnT}{a:AllT}{l:List Int}{n:Nat}(z:Lst l (acS c))(T:l.length<=n)(h: ∀p,p<n->(ft a (l.getD p 0).toNat).inS=true): ∀r,acS c r->(ft a r).inS=true:=fun y N=>by have A:=(z.mem (y:Int)).2 ⟨by omega,by rw[show((y:Nat):Int).toNat=y by omega];exact N⟩;obtain⟨p,E,e⟩:=List.getElem_of_mem A;have:=h p (by omega);rw[a01,a05 E,a0C,e]at this;rwa [show((y:Nat):Int).toNat=y by omega]at this
theorem snd_no0{c:VFnT}{a:AllT}(h:((((!(bP c))||((a.locs.length:Int) !=c.regs))||(decide (a.slots<c.params)))||(decide ((3000:Int)<a.slots)))=true): ¬SndP c a:=fun s=>by have A:=s.val;have E:=s.len;have N:=s.lo;have T:=s.hi;rw[A,E,decide_eq_false (by omega),decide_eq_false (by omega)]at h;simp at h
theorem snd_yes0{c:VFnT}{a:AllT}(h:((((!(bP c))||((a.locs.length:Int) !=c.regs))||(decide (a.slots<c.params)))||(decide ((3000:Int)<a.slots)))=false):bP c=true/\(a.locs.length:Int)=c.regs/\c.params<=a.slots/\a.slots<=3000:=by simp only[a0O,decide_eq_false_iff_not,a19,bne_eq_false_iff_eq]at h;exact⟨h.1.1.1,h.1.1.2,by omega,by omega⟩
theorem ok_no{c:VFnT}{a:AllT}{x:LocT}{lo hi:Int}(A:(x.inS=true/\lo=c.params/\hi=a.slots)\/(x.inS=false/\lo=0/\hi=5))(z:((decide (x.idx<lo))||(decide (hi<=x.idx)))=true): ¬okL c a x:=fun h=>by
 rw[a0G,decide_eq_true_eq,decide_eq_true_eq]at z;rcases A with⟨e,rfl,rfl⟩|⟨e,rfl,rfl⟩
 ·have:=h.1 e;omega
 have:=h.2 e;omega
theorem ok_yes{c:VFnT}{a:AllT}{x:LocT}{lo hi:Int}(A:(x.inS=true/\lo=c.params/\hi=a.slots)\/(x.inS=false/\lo=0/\hi=5))(z:((decide (x.idx<lo))||(decide (hi<=x.idx)))=false):okL c a x:=by
 rw[a0O,decide_eq_false_iff_not,decide_eq_false_iff_not]at z;rcases A with⟨e,rfl,rfl⟩|⟨e,rfl,rfl⟩
 ·exact⟨fun _=>by omega,fun h=>by rw[e]at h;cases h⟩
 exact⟨(fun h=>by rw[e]at h;cases h),fun _=>by omega⟩
theorem loc_eq{x y:LocT}(h:(x.inS==y.inS&&(x.idx==y.idx&&true))=true):x=y:=by obtain⟨a,i⟩:=x;obtain⟨b,j⟩:=y;simp at h;obtain⟨rfl,rfl⟩:=h;rfl
theorem loc_nq{x y:LocT}(h:(x.inS==y.inS&&(x.idx==y.idx&&true))=false):x≠y:=fun e=>by subst e;simp at h
theorem lst_at{S:Nat->Prop}{l:List Int}{p:Nat}(z:Lst l S)(A:p<l.length):S (l.getD p 0).toNat:=((z.mem _).1 (gg A)).2
set_option maxHeartbeats 2000000 in
theorem sound_c{a5:Option Addr}{be:Nat}(c:VFnT){bz:Option Addr}{b4:Nat}{N:Option Addr}{U:Nat}(a:AllT)(hs:HS (.of H []) F H [] R)(hK:in64 c.params)(hM:in64 c.regs)(T:SR F (sL a5 c.blocks.length be) c.blocks)(E:SR F (sL N a.locs.length U) a.locs)(hH:SR F (sL bz a.spi.length b4) a.spi)(hI:in64 a.slots)(hT:TB 37 tabC F)(fz: ∀j,(c.blocks.getD j default).ins.length<=1073741822):kKt ex 35 [(aG [(iI c.params),(iI c.regs),(sL a5 c.blocks.length be)]),(aG [(sL N a.locs.length U),(sL bz a.spi.length b4),(iI a.slots)])] H fun v H'=> ∃(o:Bool) (F':Fz),Fz.le F F'/\HS (.of H []) F' H' [] R/\v= .bool o/\(o=true↔SndP c a):=by
 refine au Tryd.func35 rfl rfl ?_;refine zf 1 ?_;refine aa ?_;refine az (aU hs rfl rfl) rfl rfl ?_;rintro _ H2 _ ⟨b1,rfl,(g9:HS _ _ _ [(fP b1 [(iI c.params),(iI c.regs),(sL a5 c.blocks.length be)])] _),_⟩;refine az (aU g9 rfl rfl) rfl rfl ?_;rintro _ H4 _ ⟨b3,rfl,(em:HS _ _ _ [_,(fP b3 [(sL N a.locs.length U),(sL bz a.spi.length b4),(iI a.slots)])] _),_⟩;refine za (.bool false) ?_;refine ze 3 ?_;refine aa ?_;let a2:Value:=(aG [(iI c.params),(iI c.regs),(sL a5 c.blocks.length be)])
 refine wUo 1 0 [(0,.o a2)] 17 17 [] [(17,a2)] (qn 24 0 3 (HS.hc em (i:=0) rfl) rfl rfl rfl rfl) rfl fun _=>?_
 refine zc (m3.hP ex c (HS.call em) (by first|(dsimp only;omega)|omega) (by first|(dsimp only;omega)|omega) T hT (by exact fun j=>a0c (fz j) (by omega))) ?_;rintro _ H6 ⟨r6,F6,ax,ar,rfl,rfl⟩;replace ar:HS _ _ _ [_,_] _:=HS.back em rfl ar;replace hT:=hT.mono ax;replace E:=E.mono ax;replace T:=T.mono ax;refine wRo 21 2 [(5,.o (sL N a.locs.length U)),(8,.o (iI c.regs)),(13,.o (iI a.slots)),(15,.o (iI c.params)),(20,.o (iI a.slots))] 19 39 [] [(39,(.bool ((((!(bP c))||((a.locs.length:Int) !=c.regs))||(decide (a.slots<c.params)))||(decide ((3000:Int)<a.slots)))))] (vA (fun(g1:(!(bP c))=false)=>(ql 37 0 (HS.hc ar (i:=1) rfl) rfl rfl)) (vA (fun(g1:(!(bP c))=false)=>(ql 3 1 (HS.hc ar (i:=0) rfl) rfl rfl)) (vA (fun(g1:((!(bP c))||((a.locs.length:Int) !=c.regs))=false)=>(ql 3 2 (HS.hc ar (i:=1) rfl) rfl rfl)) (vA (fun(g1:((!(bP c))||((a.locs.length:Int) !=c.regs))=false)=>(ql 3 0 (HS.hc ar (i:=0) rfl) rfl rfl)) (vA (fun(g1:(((!(bP c))||((a.locs.length:Int) !=c.regs))||(decide (a.slots<c.params)))=false)=>(ql 3 2 (HS.hc ar (i:=1) rfl) rfl rfl)) trivial))))) rfl fun _=>?_
 refine ze 1 ?_;refine zi 1 3 (fun b6=>?_) fun b6=>?_
 ·have c8:=b6;try simp only[BS]at c8
  have ai: ¬SndP c a:=snd_no0 b6;refine wT 1 [] 4 4 [] [(4,(.bool false))] rfl fun _=>?_
  refine aj ⟨.inr rfl,_,rfl,false,_,(ax),(HS.forget ar),rfl,(by first|exact⟨fun h=>(by cases h),fun h=>absurd h ai⟩|exact⟨fun _=>ao,fun _=>rfl⟩)⟩
 have c8:=b6;try simp only[BS]at c8
 have gs:=snd_yes0 b6;have hv:=gs.1;have kt:=gs.2.1;have ll:=gs.2.2.1;have li:=gs.2.2.2;have vF:=eR hv;have ms:=vF.nb;have kl:=vF.regs;have mt:=vF.params;refine aa ?_;refine wUo 1 0 [(0,.o a2)] 41 41 [] [(41,a2)] (qn 24 0 3 (HS.hc ar (i:=0) rfl) rfl rfl rfl rfl) rfl fun _=>?_
 refine zc (md.blocks_c ex c (HS.call ar) (by first|(dsimp only;omega)|omega) (by first|(dsimp only;omega)|omega) T hT (by exact fun j=>a0c (fz j) (by omega))) ?_;rintro _ h3 ⟨fi,f7,bl,hh,hQ,jb,f8,ag,aw,rfl,c3,hg,hD,hw⟩;replace aw:HS _ _ _ [_,_] _:=HS.back ar rfl aw;replace hT:=hT.mono ag;replace E:=E.mono ag;replace T:=T.mono ag;refine wTo 5 2 [] 43 44 [5,6,40] [(5,(sL fi bl.length f7))] rfl fun _=>?_
 refine ze 2 ?_;have bk:BkF c bl _:=(by assumption:bP c=true->BkF c bl _) hv;have mr:=bk.lx;have e5:Lst ((bl).getD 0 default) (LIn c 0):=bk.hx 0 (by omega);obtain⟨dk,et⟩:=Sv.view (SR.sv c3 aw);have ja:=fL (et 0);refine wR 1 [(2,.o (sL (cA (dk 0) 0) (bl.getD 0 default).length (cK (dk 0) 0)))] 45 49 [] [(49,(.bool (decide ((0:Int)<((bl.getD 0 default).length:Int)))))] (vA (Sv.ix (j:=0) (SR.sv c3 aw)) (vA (ql 25 0 (vL (et 0)) rfl rfl) trivial)) rfl fun _=>?_
 refine zd 1 3 (fun g4=>?_) fun g4=>?_
 ·have ai: ¬SndP c a:=fun h=>(in_some e5 (by omega) (by omega)).elim fun r hr=>h.z r hr
  refine wT 1 [] 4 4 [] [(4,(.bool false))] rfl fun _=>?_
  refine aj ⟨.inr rfl,_,rfl,false,_,(fT (ax) ag),(HS.forget aw),rfl,(by first|exact⟨fun h=>(by cases h),fun h=>absurd h ai⟩|exact⟨fun _=>ao,fun _=>rfl⟩)⟩
 have hz: ∀r,¬ptS c 0 0 r:=in_none e5 (by omega) (by omega);refine wU 2 [(1,.o (sL N a.locs.length U))] 50 53 [] [(51,(sL N a.locs.length U)),(52,(iI (a.locs.length:Int))),(53,(iI 0))] (ql 37 0 (HS.hc aw (i:=1) rfl) rfl rfl) rfl fun _=>?_
 let b7:Fp:=(fP b1 [(iI c.params),(iI c.regs),(sL a5 c.blocks.length be)])
 let b9:Fp:=(fP b3 [(sL N a.locs.length U),(sL bz a.spi.length b4),(iI a.slots)])
 refine ah (fun(mm:Nat) f H'=> ∃(k:Nat) (F':Fz),Fz.le f8 F'/\HS (Base.of H []) F' H' [b7,b9] R/\am f [(2,(pT b1 0)),(3,(pT b3 0)),(51,(sL N a.locs.length U)),(52,(iI (a.locs.length:Int))),(53,(iI (k:Int)))]/\mm=a.locs.length-k/\(k<=a.locs.length)/\(∀q,q<k->okL c a (ft a q))) _ ⟨0,_,fR,aw,⟨rfl,rfl,rfl,rfl,rfl,trivial⟩,rfl,(by first|assumption|omega|(simp at*;omega)),(by exact fun q h=>absurd h (a0u _))⟩ ?_;rintro hR il h4 ⟨k,f9,al,a0,dt,rfl,hk,hok⟩ f2;refine ak _ dt (fun _=>?_);clear dt;replace hT:=hT.mono al;replace E:=E.mono al;replace T:=T.mono al;refine zf 1 ?_;refine wT 2 [] 54 54 [] [(54,(.bool (decide ((k:Int)<(a.locs.length:Int)))))] rfl fun _=>?_
 refine zd 4 6 (fun g5=>?_) fun g5=>?_
 ·refine aa ?_;obtain⟨hl,ey⟩:=Sv.view (SR.sv E a0);have ha:=LocT.fx (ey k);let e9:Value:=(aG [(.bool (a.locs.getD k default).inS),(iI (a.locs.getD k default).idx)])
  refine wRo 2 0 [(1,.o e9)] 55 56 [] [(56,e9)] (vA (Sv.ix (j:=(k:Int)) (SR.sv E a0)) (vA (qn 57 0 2 (LocT.vw (ey k)) rfl rfl rfl rfl) trivial)) rfl fun _=>?_
  refine az (bg a0 rfl) rfl rfl ?_;rintro _ h5 _ ⟨c0,rfl,(f1:HS _ _ _ [_,_,(fP c0 [(.bool false),(iI 0)])] _),_⟩;refine aN (aE (q:=2) f1 rfl rfl rfl rfl rfl rfl rfl rfl rfl) rfl ?_;rintro _ h6 _ ⟨(bb:HS _ _ _ [_,_,(fP c0 [(.bool (a.locs.getD k default).inS),(iI (a.locs.getD k default).idx)])] _),_⟩;refine ze 2 ?_;refine wT 3 [] 1 0 [9,10] [(9,(iI 0)),(10,(iI 5))] rfl fun _=>?_
  refine wU 1 [(1,.o (.bool (a.locs.getD k default).inS))] 57 58 [] [(58,(.bool (a.locs.getD k default).inS))] (ql 4 0 (HS.hc bb (i:=2) rfl) rfl rfl) rfl fun _=>?_
  refine bN (fun f H'=> ∃(lo:Int) (hi:Int) (F':Fz),Fz.le f9 F'/\HS (Base.of H []) F' H' [b7,b9,(fP c0 [(.bool (a.locs.getD k default).inS),(iI (a.locs.getD k default).idx)])] R/\am f [(2,(pT b1 0)),(3,(pT b3 0)),(8,(pT c0 0)),(9,(iI lo)),(10,(iI hi)),(51,(sL N a.locs.length U)),(52,(iI (a.locs.length:Int))),(53,(iI (k:Int)))]/\(((a.locs.getD k default).inS=true/\lo=c.params/\hi=a.slots)\/((a.locs.getD k default).inS=false/\lo=0/\hi=5))/\(in64 lo)/\(in64 hi)) (fun e3=>?_) ?_
  ·refine zi 0 0 (fun c7=>?_) fun c7=>?_
   ·try simp only[BS]at c7
    refine wRD 0 [(1,.o (iI c.params)),(3,.o (iI a.slots))] 59 62 [9,10] [(9,(iI c.params)),(10,(iI a.slots))] (vA (ql 3 0 (hc0 (HS.hc bb (i:=0) rfl)) rfl rfl) (vA (ql 3 2 (hc0 (HS.hc bb (i:=1) rfl)) rfl rfl) trivial)) rfl rfl fun _=>?_
    exact e3 _ _ ⟨c.params,a.slots,_,fR,bb,⟨rfl,rfl,rfl,rfl,rfl,rfl,rfl,rfl,trivial⟩,(by first|exact .inl ⟨by assumption,rfl,rfl⟩|exact .inr ⟨by assumption,rfl,rfl⟩|exact .inl ⟨by simp_all,rfl,rfl⟩|exact .inr ⟨by simp_all,rfl,rfl⟩),(by first|assumption|omega|(simp at*;omega)),(by first|assumption|omega|(simp at*;omega))⟩
   try simp only[BS]at c7
   exact e3 _ _ ⟨0,5,_,fR,bb,⟨rfl,rfl,rfl,rfl,rfl,rfl,rfl,rfl,trivial⟩,(by first|exact .inl ⟨by assumption,rfl,rfl⟩|exact .inr ⟨by assumption,rfl,rfl⟩|exact .inl ⟨by simp_all,rfl,rfl⟩|exact .inr ⟨by simp_all,rfl,rfl⟩),(by first|assumption|omega|(simp at*;omega)),(by first|assumption|omega|(simp at*;omega))⟩
  skip;rintro it h7 ⟨lo,hi,hX,dn,b0,dv,hlh,rlo,rhi⟩;refine ak _ dv (fun _=>?_);clear dv;refine zf 2 ?_;refine wR 1 [(1,.o (iI (a.locs.getD k default).idx)),(6,.o (iI (a.locs.getD k default).idx))] 63 72 [] [(72,(.bool ((decide ((a.locs.getD k default).idx<lo))||(decide (hi<=(a.locs.getD k default).idx)))))] (vA (ql 3 1 (HS.hc b0 (i:=2) rfl) rfl rfl) (vA (fun(g1:(decide ((a.locs.getD k default).idx<lo))=false)=>(ql 3 1 (HS.hc b0 (i:=2) rfl) rfl rfl)) trivial)) rfl fun _=>?_
  refine zi 1 2 (fun a6=>?_) fun a6=>?_
  ·have c9:=a6;try simp only[BS]at c9
   have ai: ¬SndP c a:=fun h=>ok_no hlh a6 (h.loc k (by omega))
   refine wT 1 [] 4 4 [] [(4,(.bool false))] rfl fun _=>?_
   refine aj ⟨.inr rfl,_,rfl,false,_,(fT (fT (fT (ax) ag) al) dn),(HS.forget b0),rfl,(by first|exact⟨fun h=>(by cases h),fun h=>absurd h ai⟩|exact⟨fun _=>ao,fun _=>rfl⟩)⟩
  have c9:=a6;try simp only[BS]at c9
  have kx:okL c a (ft a k):=ok_yes hlh a6;refine wU 1 [] 53 53 [73] [(53,(iI ((k:Int)+1)))] (vi (n:=(k:Int)+1)) rfl fun _=>?_
  refine f2 _ _ _ ?_ ⟨k+1,_,(fT (al) dn),(HS.sub b0 (a02 _ _)),⟨rfl,rfl,rfl,rfl,rfl,trivial⟩,rfl,(by first|assumption|omega|(simp at*;omega)),(by exact cr hok kx)⟩;omega
 refine aa ?_;refine wUo 1 0 [(0,.o a2)] 74 74 [] [(74,a2)] (qn 24 0 3 (HS.hc a0 (i:=0) rfl) rfl rfl rfl rfl) rfl fun _=>?_
 refine zc (nb.inter_c ex c (HS.call a0) (by first|(dsimp only;omega)|omega) (by first|(dsimp only;omega)|omega) T hT (by assumption)) ?_;rintro _ h8 ⟨c6,e4,A,go,ay,ci,rfl,a3,hE,hA⟩;replace ci:HS _ _ _ [_,_] _:=HS.back a0 rfl ci;refine wTo 2 2 [] 76 77 [] [(76,(iI (A.length:Int))),(77,(iI 0))] rfl fun _=>?_
 refine ze 2 ?_;refine ah (fun(mm:Nat) f H'=> ∃(r:Nat) (F':Fz),Fz.le go F'/\HS (Base.of H []) F' H' [b7,b9] R/\am f [(2,(pT b1 0)),(3,(pT b3 0)),(75,(sL c6 A.length e4)),(76,(iI (A.length:Int))),(77,(iI (r:Int)))]/\mm=a.locs.length-r/\(r<=a.locs.length)/\(∀q,q<r->∀y,Sy (eP c) q y->ft a q≠ft a y)) _ ⟨0,_,fR,ci,⟨rfl,rfl,rfl,rfl,rfl,trivial⟩,rfl,(by first|assumption|omega|(simp at*;omega)),(by exact fun q h=>absurd h (a0u _))⟩ ?_;rintro hS iv h9 ⟨r,g2,an,a1,d1,rfl,hr,hdi⟩ f3;refine ak _ d1 (fun _=>?_);clear d1;replace hT:=(hT.mono ay).mono an;replace E:=(E.mono ay).mono an;replace T:=(T.mono ay).mono an;replace a3:=a3.mono an;refine zf 1 ?_;have kk:=(by assumption:bP c=true->InF c A) hv;have mq:=kk.len;refine wT 2 [] 78 78 [] [(78,(.bool (decide ((r:Int)<(A.length:Int)))))] rfl fun _=>?_
 refine zd 4 6 (fun g6=>?_) fun g6=>?_
 ·have c5:Lst ((A).getD r default) (Sy (eP c) r):=kk.row r (by omega);have mu:=Lst.len c5 kl.1 (fun y h=>(iD vF h));have ly:=gu c5 (fun y h=>(iD vF h));obtain⟨ad,ez⟩:=Sv.view (SR.sv a3 a1);have c4:=fL (ez r);refine wR 2 [(2,.o (sL (cA (ad r) 0) (A.getD r default).length (cK (ad r) 0)))] 79 81 [11,12] [(11,(iI (r:Int))),(12,(sL (cA (ad r) 0) (A.getD r default).length (cK (ad r) 0)))] (vA (Sv.ix (j:=(r:Int)) (SR.sv a3 a1)) (vA (ql 25 0 (vL (ez r)) rfl rfl) trivial)) rfl fun _=>?_
  refine wT 2 [] 82 84 [] [(82,(sL (cA (ad r) 0) (A.getD r default).length (cK (ad r) 0))),(83,(iI ((A.getD r default).length:Int))),(84,(iI 0))] rfl fun _=>?_
  refine ah (fun(mm:Nat) f H'=> ∃(j:Nat) (F':Fz),Fz.le g2 F'/\HS (Base.of H []) F' H' [b7,b9] R/\am f [(2,(pT b1 0)),(3,(pT b3 0)),(11,(iI (r:Int))),(75,(sL c6 A.length e4)),(76,(iI (A.length:Int))),(77,(iI (r:Int))),(82,(sL (cA (ad r) 0) (A.getD r default).length (cK (ad r) 0))),(83,(iI ((A.getD r default).length:Int))),(84,(iI (j:Int)))]/\mm=((A).getD r default).length-j/\(j<=((A).getD r default).length)/\(∀p,p<j->ft a r≠ft a (((A).getD r default).getD p 0).toNat)) _ ⟨0,_,fR,a1,⟨rfl,rfl,rfl,rfl,rfl,rfl,rfl,rfl,rfl,trivial⟩,rfl,(by first|assumption|omega|(simp at*;omega)),(by exact fun q h=>absurd h (a0u _))⟩ ?_;rintro hV iz ib ⟨j,hY,a8,Z,d2,rfl,hj,hdj⟩ f4;refine ak _ d2 (fun _=>?_);clear d2;replace E:=E.mono a8;replace c4:=c4.mono a8;refine zf 1 ?_;refine wT 2 [] 85 85 [] [(85,(.bool (decide ((j:Int)<((A.getD r default).length:Int)))))] rfl fun _=>?_
  refine zd 4 5 (fun g7=>?_) fun g7=>?_
  ·have mx:=dr ly (k:=j) (by omega);have l1:=lst_at c5 (p:=j) (by omega);obtain⟨hm,e0⟩:=Sv.view (SR.sv c4 Z);have i2:=fI (e0 j);refine wR 2 [(1,.o (iI ((A.getD r default).getD j 0)))] 86 87 [14] [(14,(iI ((A.getD r default).getD j 0)))] (vA (Sv.ix (j:=(j:Int)) (SR.sv c4 Z)) (vA (ql 3 0 (vI (e0 j)) rfl rfl) trivial)) rfl fun _=>?_
   obtain⟨hn,b2⟩:=Sv.view (SR.sv E Z);have hb:=LocT.fx (b2 r);have he:=LocT.fx (b2 ((A.getD r default).getD j 0).toNat);refine wRD 1 [(1,.o (sL N a.locs.length U)),(4,.o (aG [(.bool (a.locs.getD r default).inS),(iI (a.locs.getD r default).idx)])),(6,.o (sL N a.locs.length U)),(9,.o (aG [(.bool (a.locs.getD ((A.getD r default).getD j 0).toNat default).inS),(iI (a.locs.getD ((A.getD r default).getD j 0).toNat default).idx)])),(10,.o (.bool (((a.locs.getD r default).inS==(a.locs.getD ((A.getD r default).getD j 0).toNat default).inS)&&(((a.locs.getD r default).idx==(a.locs.getD ((A.getD r default).getD j 0).toNat default).idx)&&true))))] 88 98 [] [(98,(.bool (((a.locs.getD r default).inS==(a.locs.getD ((A.getD r default).getD j 0).toNat default).inS)&&(((a.locs.getD r default).idx==(a.locs.getD ((A.getD r default).getD j 0).toNat default).idx)&&true))))] (vA (ql 37 0 (hc0 (HS.hc Z (i:=1) rfl)) rfl rfl) (vA (Sv.ix (j:=(r:Int)) (SR.sv E Z)) (vA (qn 57 0 2 (hc0 (LocT.vw (b2 r))) rfl rfl rfl rfl) (vA (ql 37 0 (hc0 (HS.hc Z (i:=1) rfl)) rfl rfl) (vA (Sv.ix (j:=((A.getD r default).getD j 0)) (SR.sv E Z)) (vA (qn 57 0 2 (hc0 (LocT.vw (b2 ((A.getD r default).getD j 0).toNat))) rfl rfl rfl rfl) (vA (agEq (P:=Tryd.prog) (t:=57) (xs:=[(.bool (a.locs.getD r default).inS),(iI (a.locs.getD r default).idx)]) (ys:=[(.bool (a.locs.getD ((A.getD r default).getD j 0).toNat default).inS),(iI (a.locs.getD ((A.getD r default).getD j 0).toNat default).idx)]) (bs:=[((a.locs.getD r default).inS==(a.locs.getD ((A.getD r default).getD j 0).toNat default).inS),((a.locs.getD r default).idx==(a.locs.getD ((A.getD r default).getD j 0).toNat default).idx)]) rfl rfl rfl (by kernel_rfl) (by kernel_rfl) (.cons ⟨by decide,_,_,rfl,rfl,eqB rfl⟩ (.cons ⟨by decide,_,_,rfl,rfl,eqI rfl⟩ .nil))) trivial))))))) rfl rfl fun _=>?_
   refine zi 1 2 (fun a7=>?_) fun a7=>?_
   ·have dd:=a7;try simp only[BS]at dd
    have lf:ft a r=ft a (((A).getD r default).getD j 0).toNat:=loc_eq a7;have ai: ¬SndP c a:=fun h=>h.dis r _ (by omega) l1 lf
    refine wT 1 [] 4 4 [] [(4,(.bool false))] rfl fun _=>?_
    refine aj ⟨.inr rfl,_,rfl,false,_,(fT (fT (fT (fT (fT (ax) ag) al) ay) an) a8),(HS.forget Z),rfl,(by first|exact⟨fun h=>(by cases h),fun h=>absurd h ai⟩|exact⟨fun _=>ao,fun _=>rfl⟩)⟩
   have dd:=a7;try simp only[BS]at dd
   have jq:ft a r≠ft a (((A).getD r default).getD j 0).toNat:=loc_nq a7;refine wU 1 [] 84 84 [99] [(84,(iI ((j:Int)+1)))] (vi (n:=(j:Int)+1)) rfl fun _=>?_
   refine f4 _ _ _ ?_ ⟨j+1,_,(a8),Z,⟨rfl,rfl,rfl,rfl,rfl,rfl,rfl,rfl,rfl,trivial⟩,rfl,(by first|assumption|omega|(simp at*;omega)),(by exact cr hdj jq)⟩;omega
  refine wU 1 [] 77 77 [100] [(77,(iI ((r:Int)+1)))] (vi (n:=(r:Int)+1)) rfl fun _=>?_
  refine f3 _ _ _ ?_ ⟨r+1,_,(fT (an) a8),Z,⟨rfl,rfl,rfl,rfl,rfl,trivial⟩,rfl,(by first|assumption|omega|(simp at*;omega)),(by exact cr hdi (snd_row c5 (by omega) hdj))⟩;omega
 refine aa ?_;refine wUo 1 0 [(0,.o a2)] 101 101 [] [(101,a2)] (qn 24 0 3 (HS.hc a1 (i:=0) rfl) rfl rfl rfl rfl) rfl fun _=>?_
 refine zc (mg.across_c ex c (HS.call a1) (by first|(dsimp only;omega)|omega) (by first|(dsimp only;omega)|omega) T hT (by exact fun j=>a0c (fz j) (by omega))) ?_;rintro _ ih ⟨fd,f6,V,e6,g3,ch,co,rfl,a4,hF,hB⟩;replace co:HS _ _ _ [_,_,e6] _:=HS.back a1 rfl co;refine wTo 2 2 [] 103 104 [] [(103,(iI (V.length:Int))),(104,(iI 0))] rfl fun _=>?_
 refine ze 2 ?_;refine ah (fun(mm:Nat) f H'=> ∃(p:Nat) (F':Fz),Fz.le g3 F'/\HS (Base.of H []) F' H' [b7,b9,e6] R/\am f [(3,(pT b3 0)),(102,(sL fd V.length f6)),(103,(iI (V.length:Int))),(104,(iI (p:Int)))]/\mm=(V).length-p/\(p<=(V).length)/\(∀q,q<p->(ft a ((V).getD q 0).toNat).inS=true)) _ ⟨0,_,fR,co,⟨rfl,rfl,rfl,rfl,trivial⟩,rfl,(by first|assumption|omega|(simp at*;omega)),(by exact fun q h=>absurd h (a0u _))⟩ ?_;rintro hW i1 ik ⟨p,h0,a9,av,ea,rfl,hp,ds⟩ f5;refine ak _ ea (fun _=>?_);clear ea;replace E:=(E.mono ch).mono a9;replace a4:=a4.mono a9;refine zf 1 ?_;have ck:=(by assumption:bP c=true->Lst V (acS c)) hv;have la:=gu ck (fun r h=>iT vF (a0a _) h);have mp:=Lst.len ck kl.1 (fun r h=>iT vF (a0a _) h);refine wT 2 [] 105 105 [] [(105,(.bool (decide ((p:Int)<(V.length:Int)))))] rfl fun _=>?_
 refine zd 4 5 (fun g8=>?_) fun g8=>?_
 ·have mw:=dr la (k:=p) (by omega);have l0:=lst_at ck (p:=p) (by omega);obtain⟨ht,e1⟩:=Sv.view (OS.sv a4 av (i:=2) rfl);have i3:=fI (e1 p);refine wR 2 [(1,.o (iI (V.getD p 0)))] 106 107 [16] [(16,(iI (V.getD p 0)))] (vA (Sv.ix (j:=(p:Int)) (OS.sv a4 av (i:=2) rfl)) (vA (ql 3 0 (vI (e1 p)) rfl rfl) trivial)) rfl fun _=>?_
  obtain⟨hu,e2⟩:=Sv.view (SR.sv E av);have hf:=LocT.fx (e2 (V.getD p 0).toNat);refine wR 1 [(1,.o (sL N a.locs.length U)),(5,.o (.bool (a.locs.getD (V.getD p 0).toNat default).inS))] 108 114 [] [(114,(.bool (!(a.locs.getD (V.getD p 0).toNat default).inS)))] (vA (ql 37 0 (HS.hc av (i:=1) rfl) rfl rfl) (vA (Sv.ix (j:=(V.getD p 0)) (SR.sv E av)) (vA (ql 4 0 (LocT.vw (e2 (V.getD p 0).toNat)) rfl rfl) trivial))) rfl fun _=>?_
  refine zi 1 2 (fun b5=>?_) fun b5=>?_
  ·try simp only[BS]at b5
   have ai: ¬SndP c a:=fun h=>by have h1:=h.acr _ l0;have h2:=b5;(unfold ft at h1;simp_all)
   refine wT 1 [] 4 4 [] [(4,(.bool false))] rfl fun _=>?_
   refine aj ⟨.inr rfl,_,rfl,false,_,(fT (fT (fT (fT (fT (fT (ax) ag) al) ay) an) ch) a9),(HS.forget av),rfl,(by first|exact⟨fun h=>(by cases h),fun h=>absurd h ai⟩|exact⟨fun _=>ao,fun _=>rfl⟩)⟩
  try simp only[BS]at b5
  have jq:(ft a ((V).getD p 0).toNat).inS=true:=by have h2:=b5;(unfold ft;simp_all)
  refine wU 1 [] 104 104 [115] [(104,(iI ((p:Int)+1)))] (vi (n:=(p:Int)+1)) rfl fun _=>?_
  refine f5 _ _ _ ?_ ⟨p+1,_,(a9),av,⟨rfl,rfl,rfl,rfl,trivial⟩,rfl,(by first|assumption|omega|(simp at*;omega)),(by exact cr ds jq)⟩;omega
 have ao:SndP c a:=⟨hv,kt,ll,li,hz,fun q hq=>hok q (by omega),fun q y hq=>hdi q (by omega) y,snd_acr ck (by omega) ds⟩
 refine wT 1 [] 4 4 [] [(4,(.bool true))] rfl fun _=>?_
 refine aj ⟨.inr rfl,_,rfl,true,_,(fT (fT (fT (fT (fT (fT (ax) ag) al) ay) an) ch) a9),(HS.forget av),rfl,(by first|exact⟨fun h=>(by cases h),fun h=>absurd h ai⟩|exact⟨fun _=>ao,fun _=>rfl⟩)⟩
end Go.Proofs.YtknafdcgpaejlaaDoor.nv
