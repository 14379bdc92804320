/-
 Soundness of an allocation, the program and the reference, by symbolic runs. No condition but bounds on lengths.
-/
import Derived.Test.YtknafdcgpaejlaaDoorZENI
noncomputable section
namespace Go.Proofs.YtknafdcgpaejlaaDoor.nv
open Go.R
set_option maxRecDepth 10000
set_option linter.unusedVariables false
set_option linter.unusedSimpArgs false
variable (ex:FuncId) {F:Fz} {H:Heap} {R:List Fp}
structure LocT where
 inS:Bool
 idx:Int
 deriving Inhabited,DecidableEq
instance :Rp LocT where
 sz:=2
 rep F cs x:=cs=[.bool x.inS,.int .i64 x.idx]/\in64 x.idx
 len:=by rintro F cs x ⟨rfl,_⟩;rfl
 one:=by rintro F cs x ⟨rfl,_⟩;rfl
 mono:=by intro F F' cs x _ h;exact h
theorem LocT.vw{F:Fz}{get:Nat->Option AObj}{v:Value}{cf:Nat->List Value}{j:Nat}{l:List LocT}(h:VW F get v l cf j)(hj:j<l.length:=by first|(dsimp only;omega)|omega):HC get (sB v) (sO v+j*Rp.sz LocT) [.bool (l.getD j default).inS,.int .i64 (l.getD j default).idx]:=by obtain⟨⟨E,_⟩,A⟩:=h.1 default hj;rw[show cf j=_ from E]at A;exact A
theorem LocT.fx{F:Fz}{get:Nat->Option AObj}{v:Value}{cf:Nat->List Value}{j:Nat}{l:List LocT}(h:VW F get v l cf j):in64 (l.getD j default).idx:=by
 rcases a0j j l.length with hj|hj
 ·obtain⟨⟨E,A⟩,_⟩:=h.1 default hj;exact A
 rw[cM hj];decide
structure SpiT where
 reg:Int
 why:Int
 blk:Int
 idx:Int
 oth:(List Int)
 deriving Inhabited,DecidableEq
instance :Rp SpiT where
 sz:=5
 rep F cs x:= ∃a4 k4,cs=[.int .i64 x.reg,.int .i64 x.why,.int .i64 x.blk,.int .i64 x.idx,.slice a4 x.oth.length k4]/\in64 x.reg/\in64 x.why/\in64 x.blk/\in64 x.idx/\SR F (.slice a4 x.oth.length k4) x.oth
 len:=by rintro F cs x ⟨a4,k4,rfl,_⟩;rfl
 one:=by rintro F cs x ⟨a4,k4,rfl,_⟩;rfl
 mono:=by rintro F F' cs x hF ⟨a4,k4,rfl,h0,h1,h2,h3,h4⟩;exact⟨a4,k4,rfl,h0,h1,h2,h3,h4.mono hF⟩
theorem SpiT.vw{F:Fz}{get:Nat->Option AObj}{v:Value}{cf:Nat->List Value}{j:Nat}{l:List SpiT}(h:VW F get v l cf j)(hj:j<l.length:=by first|(dsimp only;omega)|omega):HC get (sB v) (sO v+j*Rp.sz SpiT) [.int .i64 (l.getD j default).reg,.int .i64 (l.getD j default).why,.int .i64 (l.getD j default).blk,.int .i64 (l.getD j default).idx,sL (cA (cf j) 4) (l.getD j default).oth.length (cK (cf j) 4)]:=by obtain⟨⟨N,T,E,_⟩,A⟩:=h.1 default hj;rw[show cf j=_ from E]at A⊢;exact A
theorem SpiT.fx{F:Fz}{get:Nat->Option AObj}{v:Value}{cf:Nat->List Value}{j:Nat}{l:List SpiT}(h:VW F get v l cf j):in64 (l.getD j default).reg/\in64 (l.getD j default).why/\in64 (l.getD j default).blk/\in64 (l.getD j default).idx/\SR F (sL (cA (cf j) 4) (l.getD j default).oth.length (cK (cf j) 4)) (l.getD j default).oth:=by
 rcases a0j j l.length with hj|hj
 ·obtain⟨⟨Z,k4,A,E,N,T,U,V⟩,_⟩:=h.1 default hj;rw[show cf j=_ from A];exact⟨E,N,T,U,V⟩
 rw[cM hj,h.2 hj];exact⟨by decide,by decide,by decide,by decide,SR.nil⟩
structure AllT where
 locs:(List LocT)
 spi:(List SpiT)
 slots:Int
 deriving Inhabited,DecidableEq
instance :Rp AllT where
 sz:=3
 rep F cs x:= ∃a0 k0 a1 k1,cs=[.slice a0 x.locs.length k0,.slice a1 x.spi.length k1,.int .i64 x.slots]/\in64 x.slots/\SR F (.slice a0 x.locs.length k0) x.locs/\SR F (.slice a1 x.spi.length k1) x.spi
 len:=by rintro F cs x ⟨a0,k0,a1,k1,rfl,_⟩;rfl
 one:=by rintro F cs x ⟨a0,k0,a1,k1,rfl,_⟩;rfl
 mono:=by rintro F F' cs x hF ⟨a0,k0,a1,k1,rfl,h0,h1,h2⟩;exact⟨a0,k0,a1,k1,rfl,h0,h1.mono hF,h2.mono hF⟩
open m1 m2 m3 m4 m5 m6 ma ml mb mc md mf mg mh mi mj na nb nc ni
theorem gt{c:VFnT}{l:List Int}{S:Nat->Prop}(h:Lst l S)(hs: ∀r,S r->(r:Int)<c.regs): ∀x∈l,0<=x/\x<c.regs:=fun x hx=>by obtain⟨E,A⟩:=(h.mem x).1 hx;have:=hs _ A;omega
theorem lst_some{l:List Int}{S:Nat->Prop}(h:Lst l S)(hl:0<l.length): ∃r,S r:=by
 cases l with
 |nil=>exact absurd hl (Nat.lt_irrefl _)
 |cons x l=>exact⟨_,((h.mem x).1 (a0p ..)).2⟩
theorem inte_lt{c:VFnT}(v:VF c){a x:Nat}(h:eR c a x):(a:Int)<c.regs/\(x:Int)<c.regs:=by obtain⟨b,i,A,E,N,T,_⟩:=h;exact⟨((bu (v.ins b A i E)).2.1 _ N).2,cF v A T⟩
theorem iE{c:VFnT}(v:VF c){r y:Nat}(h:Sy (eR c) r y):(y:Int)<c.regs:=h.elim (fun h=>(inte_lt v h).2) fun h=>(inte_lt v h).1
theorem in_some{c:VFnT}{x:List (List Int)}(h:Lst (x.getD 0 default) (LIn c 0))(hb:0<c.blocks.length)(hl:0<(x.getD 0 default).length): ∃r,ptS c 0 0 r:=by obtain⟨r,hr⟩:=lst_some h hl;exact⟨r,(pt_in hb _).2 hr⟩
theorem in_none{c:VFnT}{x:List (List Int)}(h:Lst (x.getD 0 default) (LIn c 0))(hb:0<c.blocks.length)(hl: ¬0<(x.getD 0 default).length): ∀r,¬ptS c 0 0 r:=fun r hr=>by have:=(pt_in hb _).1 hr;have A:=List.length_pos_of_mem ((h.mem (r:Int)).2 ⟨by omega,by rw[show((r:Nat):Int).toNat=r by omega];exact this⟩);omega
def okL(c:VFnT)(a:AllT)(x:LocT):Prop:=(x.inS=true->c.params<=x.idx/\x.idx<a.slots)/\(x.inS=false->0<=x.idx/\x.idx<5)
def ft(a:AllT)(r:Nat):LocT:=a.locs.getD r default
structure SndP(c:VFnT)(a:AllT):Prop where
 val:bJ c=true
 len:(a.locs.length:Int)=c.regs
 lo:c.params<=a.slots
 hi:a.slots<=3000
 z: ∀r,¬ptS c 0 0 r
 loc: ∀q,q<a.locs.length->okL c a (ft a q)
 dis: ∀q y,q<a.locs.length->Sy (eR c) q y->ft a q≠ft a y
 acr: ∀r,acS c r->(ft a r).inS=true
theorem cv{P:Nat->Prop}{k:Nat}(h: ∀q,q<k->P q)(hk:P k): ∀q,q<k+1->P q:=fun q hq=>by
 rcases a1X (Nat.le_of_lt_succ hq) with A|rfl
 ·exact h q A
 exact hk
theorem snd_row{c:VFnT}{a:AllT}{row:List Int}{r n:Nat}(hl:Lst row (Sy (eR c) r))(hn:row.length<=n)(h: ∀p,p<n->ft a r≠ft a (row.getD p 0).toNat): ∀y,Sy (eR c) r y->ft a r≠ft a y:=fun y hy=>by have hm:=(hl.mem (y:Int)).2 ⟨by omega,by rw[show((y:Nat):Int).toNat=y by omega];exact hy⟩;obtain⟨p,hp,e⟩:=List.getElem_of_mem hm;have:=h p (by omega);rw[a01,a04 hp,a0B,e]at this;rwa [show((y:Nat):Int).toNat=y by omega]at this
theorem snd_acr{c:VFnT}{a:AllT}{l:List Int}{n:Nat}(hl:Lst l (acS c))(hn:l.length<=n)(h: ∀p,p<n->(ft a (l.getD p 0).toNat).inS=true): ∀r,acS c r->(ft a r).inS=true:=fun y hy=>by have hm:=(hl.mem (y:Int)).2 ⟨by omega,by rw[show((y:Nat):Int).toNat=y by omega];exact hy⟩;obtain⟨p,hp,e⟩:=List.getElem_of_mem hm;have:=h p (by omega);rw[a01,a04 hp,a0B,e]at this;rwa [show((y:Nat):Int).toNat=y by omega]at this
theorem snd_no0{c:VFnT}{a:AllT}(h:((((!(bJ c))||((a.locs.length:Int) !=c.regs))||(decide (a.slots<c.params)))||(decide ((3000:Int)<a.slots)))=true): ¬SndP c a:=fun s=>by have A:=s.val;have E:=s.len;have N:=s.lo;have T:=s.hi;rw[A,E,decide_eq_false (by omega),decide_eq_false (by omega)]at h;simp at h
theorem snd_yes0{c:VFnT}{a:AllT}(h:((((!(bJ c))||((a.locs.length:Int) !=c.regs))||(decide (a.slots<c.params)))||(decide ((3000:Int)<a.slots)))=false):bJ c=true/\(a.locs.length:Int)=c.regs/\c.params<=a.slots/\a.slots<=3000:=by simp only[a0O,decide_eq_false_iff_not,a19,bne_eq_false_iff_eq]at h;exact⟨h.1.1.1,h.1.1.2,by omega,by omega⟩
theorem ok_no{c:VFnT}{a:AllT}{x:LocT}{lo hi:Int}(hl:(x.inS=true/\lo=c.params/\hi=a.slots)\/(x.inS=false/\lo=0/\hi=5))(hb:((decide (x.idx<lo))||(decide (hi<=x.idx)))=true): ¬okL c a x:=fun h=>by
 rw[a0F,decide_eq_true_eq,decide_eq_true_eq]at hb;rcases hl with⟨e,rfl,rfl⟩|⟨e,rfl,rfl⟩
 ·have:=h.1 e;omega
 have:=h.2 e;omega
theorem ok_yes{c:VFnT}{a:AllT}{x:LocT}{lo hi:Int}(hl:(x.inS=true/\lo=c.params/\hi=a.slots)\/(x.inS=false/\lo=0/\hi=5))(hb:((decide (x.idx<lo))||(decide (hi<=x.idx)))=false):okL c a x:=by
 rw[a0O,decide_eq_false_iff_not,decide_eq_false_iff_not]at hb;rcases hl with⟨e,rfl,rfl⟩|⟨e,rfl,rfl⟩
 ·exact⟨fun _=>by omega,fun h=>by rw[e]at h;cases h⟩
 exact⟨(fun h=>by rw[e]at h;cases h),fun _=>by omega⟩
theorem loc_eq{x y:LocT}(h:(x.inS==y.inS&&(x.idx==y.idx&&true))=true):x=y:=by obtain⟨a,i⟩:=x;obtain⟨b,j⟩:=y;simp at h;obtain⟨rfl,rfl⟩:=h;rfl
theorem loc_nq{x y:LocT}(h:(x.inS==y.inS&&(x.idx==y.idx&&true))=false):x≠y:=fun e=>by subst e;simp at h
theorem lst_at{S:Nat->Prop}{l:List Int}{p:Nat}(hl:Lst l S)(hp:p<l.length):S (l.getD p 0).toNat:=((hl.mem _).1 (gf hp)).2
set_option maxHeartbeats 2000000 in
theorem sound_c{a5:Option Addr}{bl:Nat}(c:VFnT){b0:Option Addr}{b5:Nat}{N:Option Addr}{U:Nat}(a:AllT)(hs:HS (.of H []) F H [] R)(hM:in64 c.params)(hQ:in64 c.regs)(T:SR F (sL a5 c.blocks.length bl) c.blocks)(E:SR F (sL N a.locs.length U) a.locs)(hI:SR F (sL b0 a.spi.length b5) a.spi)(hK:in64 a.slots)(hT:TB 37 tabC F)(hins: ∀j,(c.blocks.getD j default).ins.length<=1073741822):kKt ex 35 [(aG [(iI c.params),(iI c.regs),(sL a5 c.blocks.length bl)]),(aG [(sL N a.locs.length U),(sL b0 a.spi.length b5),(iI a.slots)])] H fun v H'=> ∃(o:Bool) (F':Fz),Fz.le F F'/\HS (.of H []) F' H' [] R/\v= .bool o/\(o=true↔SndP c a):=by
 refine aE Tryd.func35 rfl rfl ?_;refine zf 1 ?_;refine aa ?_;refine aF (aV hs rfl rfl) rfl rfl ?_;rintro _ H2 _ ⟨b1,rfl,(ha:HS _ _ _ [(fP b1 [(iI c.params),(iI c.regs),(sL a5 c.blocks.length bl)])] _),_⟩;refine aF (aV ha rfl rfl) rfl rfl ?_;rintro _ H4 _ ⟨b3,rfl,(et:HS _ _ _ [_,(fP b3 [(sL N a.locs.length U),(sL b0 a.spi.length b5),(iI a.slots)])] _),_⟩;refine za (.bool false) ?_;refine ze 3 ?_;refine aa ?_;let a2:Value:=(aG [(iI c.params),(iI c.regs),(sL a5 c.blocks.length bl)])
 refine wUo 1 0 [(0,.o a2)] 17 17 [] [(17,a2)] (qn 24 0 3 (HS.hc et (i:=0) rfl) rfl rfl rfl rfl) rfl fun _=>?_
 refine zc (m3.hU ex c (HS.call et) (by first|(dsimp only;omega)|omega) (by first|(dsimp only;omega)|omega) T hT (by exact fun j=>a0c (hins j) (by omega))) ?_;rintro _ H6 ⟨r6,F6,ax,ar,rfl,rfl⟩;replace ar:HS _ _ _ [_,_] _:=HS.back et rfl ar;replace hT:=hT.mono ax;replace E:=E.mono ax;replace T:=T.mono ax;refine wRo 21 2 [(5,.o (sL N a.locs.length U)),(8,.o (iI c.regs)),(13,.o (iI a.slots)),(15,.o (iI c.params)),(20,.o (iI a.slots))] 19 39 [] [(39,(.bool ((((!(bJ c))||((a.locs.length:Int) !=c.regs))||(decide (a.slots<c.params)))||(decide ((3000:Int)<a.slots)))))] (vA (fun(g1:(!(bJ c))=false)=>(ql 37 0 (HS.hc ar (i:=1) rfl) rfl rfl)) (vA (fun(g1:(!(bJ c))=false)=>(ql 3 1 (HS.hc ar (i:=0) rfl) rfl rfl)) (vA (fun(g1:((!(bJ c))||((a.locs.length:Int) !=c.regs))=false)=>(ql 3 2 (HS.hc ar (i:=1) rfl) rfl rfl)) (vA (fun(g1:((!(bJ c))||((a.locs.length:Int) !=c.regs))=false)=>(ql 3 0 (HS.hc ar (i:=0) rfl) rfl rfl)) (vA (fun(g1:(((!(bJ c))||((a.locs.length:Int) !=c.regs))||(decide (a.slots<c.params)))=false)=>(ql 3 2 (HS.hc ar (i:=1) rfl) rfl rfl)) trivial))))) rfl fun _=>?_
 refine ze 1 ?_;refine zi 1 3 (fun b7=>?_) fun b7=>?_
 ·have c8:=b7;try simp only[BS]at c8
  have hbad: ¬SndP c a:=snd_no0 b7;refine wT 1 [] 4 4 [] [(4,(.bool false))] rfl fun _=>?_
  refine aj ⟨.inr rfl,_,rfl,false,_,(ax),(HS.forget ar),rfl,(by first|exact⟨fun h=>(by cases h),fun h=>absurd h hbad⟩|exact⟨fun _=>hfin,fun _=>rfl⟩)⟩
 have c8:=b7;try simp only[BS]at c8
 have hyy:=snd_yes0 b7;have hv:=hyy.1;have hlen:=hyy.2.1;have hlo:=hyy.2.2.1;have hhi:=hyy.2.2.2;have vF:=eT hv;have hnb:=vF.nb;have hrg:=vF.regs;have hpr:=vF.params;refine aa ?_;refine wUo 1 0 [(0,.o a2)] 41 41 [] [(41,a2)] (qn 24 0 3 (HS.hc ar (i:=0) rfl) rfl rfl rfl rfl) rfl fun _=>?_
 refine zc (md.blocks_c ex c (HS.call ar) (by first|(dsimp only;omega)|omega) (by first|(dsimp only;omega)|omega) T hT (by exact fun j=>a0c (hins j) (by omega))) ?_;rintro _ h4 ⟨f0,f8,bz,hl,hR,jc,f9,ag,aw,rfl,c4,hh,hE,hA⟩;replace aw:HS _ _ _ [_,_] _:=HS.back ar rfl aw;replace hT:=hT.mono ag;replace E:=E.mono ag;replace T:=T.mono ag;refine wTo 5 2 [] 43 44 [5,6,40] [(5,(sL f0 bz.length f8))] rfl fun _=>?_
 refine ze 2 ?_;have bk:BkF c bz _:=(by assumption:bJ c=true->BkF c bz _) hv;have hlx:=bk.lx;have e6:Lst ((bz).getD 0 default) (LIn c 0):=bk.hx 0 (by omega);obtain⟨dl,ey⟩:=Sv.view (SR.sv c4 aw);have jb:=fL (ey 0);refine wR 1 [(2,.o (sL (cA (dl 0) 0) (bz.getD 0 default).length (cK (dl 0) 0)))] 45 49 [] [(49,(.bool (decide ((0:Int)<((bz.getD 0 default).length:Int)))))] (vA (Sv.ix (j:=0) (SR.sv c4 aw)) (vA (ql 25 0 (vL (ey 0)) rfl rfl) trivial)) rfl fun _=>?_
 refine zd 1 3 (fun g5=>?_) fun g5=>?_
 ·have hbad: ¬SndP c a:=fun h=>(in_some e6 (by omega) (by omega)).elim fun r hr=>h.z r hr
  refine wT 1 [] 4 4 [] [(4,(.bool false))] rfl fun _=>?_
  refine aj ⟨.inr rfl,_,rfl,false,_,(fT (ax) ag),(HS.forget aw),rfl,(by first|exact⟨fun h=>(by cases h),fun h=>absurd h hbad⟩|exact⟨fun _=>hfin,fun _=>rfl⟩)⟩
 have hz: ∀r,¬ptS c 0 0 r:=in_none e6 (by omega) (by omega);refine wU 2 [(1,.o (sL N a.locs.length U))] 50 53 [] [(51,(sL N a.locs.length U)),(52,(iI (a.locs.length:Int))),(53,(iI 0))] (ql 37 0 (HS.hc aw (i:=1) rfl) rfl rfl) rfl fun _=>?_
 let b9:Fp:=(fP b1 [(iI c.params),(iI c.regs),(sL a5 c.blocks.length bl)])
 let cc:Fp:=(fP b3 [(sL N a.locs.length U),(sL b0 a.spi.length b5),(iI a.slots)])
 refine ah (fun(mm:Nat) f H'=> ∃(k:Nat) (F':Fz),Fz.le f9 F'/\HS (Base.of H []) F' H' [b9,cc] R/\az f [(2,(pT b1 0)),(3,(pT b3 0)),(51,(sL N a.locs.length U)),(52,(iI (a.locs.length:Int))),(53,(iI (k:Int)))]/\mm=a.locs.length-k/\(k<=a.locs.length)/\(∀q,q<k->okL c a (ft a q))) _ ⟨0,_,fR,aw,⟨rfl,rfl,rfl,rfl,rfl,trivial⟩,rfl,(by first|assumption|omega|(simp at*;omega)),(by exact fun q h=>absurd h (a0t _))⟩ ?_;rintro hS it h5 ⟨k,go,al,a0,dv,rfl,hk,hok⟩ f3;refine ak _ dv (fun _=>?_);clear dv;replace hT:=hT.mono al;replace E:=E.mono al;replace T:=T.mono al;refine zf 1 ?_;refine wT 2 [] 54 54 [] [(54,(.bool (decide ((k:Int)<(a.locs.length:Int)))))] rfl fun _=>?_
 refine zd 4 6 (fun g6=>?_) fun g6=>?_
 ·refine aa ?_;obtain⟨hm,ez⟩:=Sv.view (SR.sv E a0);have hb:=LocT.fx (ez k);let fd:Value:=(aG [(.bool (a.locs.getD k default).inS),(iI (a.locs.getD k default).idx)])
  refine wRo 2 0 [(1,.o fd)] 55 56 [] [(56,fd)] (vA (Sv.ix (j:=(k:Int)) (SR.sv E a0)) (vA (qn 57 0 2 (LocT.vw (ez k)) rfl rfl rfl rfl) trivial)) rfl fun _=>?_
  refine aF (bj a0 rfl) rfl rfl ?_;rintro _ h6 _ ⟨c3,rfl,(f2:HS _ _ _ [_,_,(fP c3 [(.bool false),(iI 0)])] _),_⟩;refine aR (aJ (q:=2) f2 rfl rfl rfl rfl rfl rfl rfl rfl rfl) rfl ?_;rintro _ h7 _ ⟨(bb:HS _ _ _ [_,_,(fP c3 [(.bool (a.locs.getD k default).inS),(iI (a.locs.getD k default).idx)])] _),_⟩;refine ze 2 ?_;refine wT 3 [] 1 0 [9,10] [(9,(iI 0)),(10,(iI 5))] rfl fun _=>?_
  refine wU 1 [(1,.o (.bool (a.locs.getD k default).inS))] 57 58 [] [(58,(.bool (a.locs.getD k default).inS))] (ql 4 0 (HS.hc bb (i:=2) rfl) rfl rfl) rfl fun _=>?_
  refine bO (fun f H'=> ∃(lo:Int) (hi:Int) (F':Fz),Fz.le go F'/\HS (Base.of H []) F' H' [b9,cc,(fP c3 [(.bool (a.locs.getD k default).inS),(iI (a.locs.getD k default).idx)])] R/\az f [(2,(pT b1 0)),(3,(pT b3 0)),(8,(pT c3 0)),(9,(iI lo)),(10,(iI hi)),(51,(sL N a.locs.length U)),(52,(iI (a.locs.length:Int))),(53,(iI (k:Int)))]/\(((a.locs.getD k default).inS=true/\lo=c.params/\hi=a.slots)\/((a.locs.getD k default).inS=false/\lo=0/\hi=5))/\(in64 lo)/\(in64 hi)) (fun e4=>?_) ?_
  ·refine zi 0 0 (fun c9=>?_) fun c9=>?_
   ·try simp only[BS]at c9
    refine wRD 0 [(1,.o (iI c.params)),(3,.o (iI a.slots))] 59 62 [9,10] [(9,(iI c.params)),(10,(iI a.slots))] (vA (ql 3 0 (hc0 (HS.hc bb (i:=0) rfl)) rfl rfl) (vA (ql 3 2 (hc0 (HS.hc bb (i:=1) rfl)) rfl rfl) trivial)) rfl rfl fun _=>?_
    exact e4 _ _ ⟨c.params,a.slots,_,fR,bb,⟨rfl,rfl,rfl,rfl,rfl,rfl,rfl,rfl,trivial⟩,(by first|exact .inl ⟨by assumption,rfl,rfl⟩|exact .inr ⟨by assumption,rfl,rfl⟩|exact .inl ⟨by simp_all,rfl,rfl⟩|exact .inr ⟨by simp_all,rfl,rfl⟩),(by first|assumption|omega|(simp at*;omega)),(by first|assumption|omega|(simp at*;omega))⟩
   try simp only[BS]at c9
   exact e4 _ _ ⟨0,5,_,fR,bb,⟨rfl,rfl,rfl,rfl,rfl,rfl,rfl,rfl,trivial⟩,(by first|exact .inl ⟨by assumption,rfl,rfl⟩|exact .inr ⟨by assumption,rfl,rfl⟩|exact .inl ⟨by simp_all,rfl,rfl⟩|exact .inr ⟨by simp_all,rfl,rfl⟩),(by first|assumption|omega|(simp at*;omega)),(by first|assumption|omega|(simp at*;omega))⟩
  skip;rintro iv h8 ⟨lo,hi,hY,ds,b2,d1,hlh,rlo,rhi⟩;refine ak _ d1 (fun _=>?_);clear d1;refine zf 2 ?_;refine wR 1 [(1,.o (iI (a.locs.getD k default).idx)),(6,.o (iI (a.locs.getD k default).idx))] 63 72 [] [(72,(.bool ((decide ((a.locs.getD k default).idx<lo))||(decide (hi<=(a.locs.getD k default).idx)))))] (vA (ql 3 1 (HS.hc b2 (i:=2) rfl) rfl rfl) (vA (fun(g1:(decide ((a.locs.getD k default).idx<lo))=false)=>(ql 3 1 (HS.hc b2 (i:=2) rfl) rfl rfl)) trivial)) rfl fun _=>?_
  refine zi 1 2 (fun a6=>?_) fun a6=>?_
  ·have dd:=a6;try simp only[BS]at dd
   have hbad: ¬SndP c a:=fun h=>ok_no hlh a6 (h.loc k (by omega))
   refine wT 1 [] 4 4 [] [(4,(.bool false))] rfl fun _=>?_
   refine aj ⟨.inr rfl,_,rfl,false,_,(fT (fT (fT (ax) ag) al) ds),(HS.forget b2),rfl,(by first|exact⟨fun h=>(by cases h),fun h=>absurd h hbad⟩|exact⟨fun _=>hfin,fun _=>rfl⟩)⟩
  have dd:=a6;try simp only[BS]at dd
  have hokk:okL c a (ft a k):=ok_yes hlh a6;refine wU 1 [] 53 53 [73] [(53,(iI ((k:Int)+1)))] (vi (n:=(k:Int)+1)) rfl fun _=>?_
  refine f3 _ _ _ ?_ ⟨k+1,_,(fT (al) ds),(HS.sub b2 (a02 _ _)),⟨rfl,rfl,rfl,rfl,rfl,trivial⟩,rfl,(by first|assumption|omega|(simp at*;omega)),(by exact cv hok hokk)⟩;omega
 refine aa ?_;refine wUo 1 0 [(0,.o a2)] 74 74 [] [(74,a2)] (qn 24 0 3 (HS.hc a0 (i:=0) rfl) rfl rfl rfl rfl) rfl fun _=>?_
 refine zc (nb.inter_c ex c (HS.call a0) (by first|(dsimp only;omega)|omega) (by first|(dsimp only;omega)|omega) T hT (by assumption)) ?_;rintro _ h9 ⟨c7,e5,A,g2,ay,co,rfl,a3,hF,hB⟩;replace co:HS _ _ _ [_,_] _:=HS.back a0 rfl co;refine wTo 2 2 [] 76 77 [] [(76,(iI (A.length:Int))),(77,(iI 0))] rfl fun _=>?_
 refine ze 2 ?_;refine ah (fun(mm:Nat) f H'=> ∃(r:Nat) (F':Fz),Fz.le g2 F'/\HS (Base.of H []) F' H' [b9,cc] R/\az f [(2,(pT b1 0)),(3,(pT b3 0)),(75,(sL c7 A.length e5)),(76,(iI (A.length:Int))),(77,(iI (r:Int)))]/\mm=a.locs.length-r/\(r<=a.locs.length)/\(∀q,q<r->∀y,Sy (eR c) q y->ft a q≠ft a y)) _ ⟨0,_,fR,co,⟨rfl,rfl,rfl,rfl,rfl,trivial⟩,rfl,(by first|assumption|omega|(simp at*;omega)),(by exact fun q h=>absurd h (a0t _))⟩ ?_;rintro hV iz ib ⟨r,g3,an,a1,d2,rfl,hr,hdi⟩ f4;refine ak _ d2 (fun _=>?_);clear d2;replace hT:=(hT.mono ay).mono an;replace E:=(E.mono ay).mono an;replace T:=(T.mono ay).mono an;replace a3:=a3.mono an;refine zf 1 ?_;have hif:=(by assumption:bJ c=true->InF c A) hv;have hgl:=hif.len;refine wT 2 [] 78 78 [] [(78,(.bool (decide ((r:Int)<(A.length:Int)))))] rfl fun _=>?_
 refine zd 4 6 (fun g7=>?_) fun g7=>?_
 ·have hrow:Lst ((A).getD r default) (Sy (eR c) r):=hif.row r (by omega);have hrl:=Lst.len hrow hrg.1 (fun y h=>(iE vF h));have hrn:=gt hrow (fun y h=>(iE vF h));obtain⟨ad,e0⟩:=Sv.view (SR.sv a3 a1);have c5:=fL (e0 r);refine wR 2 [(2,.o (sL (cA (ad r) 0) (A.getD r default).length (cK (ad r) 0)))] 79 81 [11,12] [(11,(iI (r:Int))),(12,(sL (cA (ad r) 0) (A.getD r default).length (cK (ad r) 0)))] (vA (Sv.ix (j:=(r:Int)) (SR.sv a3 a1)) (vA (ql 25 0 (vL (e0 r)) rfl rfl) trivial)) rfl fun _=>?_
  refine wT 2 [] 82 84 [] [(82,(sL (cA (ad r) 0) (A.getD r default).length (cK (ad r) 0))),(83,(iI ((A.getD r default).length:Int))),(84,(iI 0))] rfl fun _=>?_
  refine ah (fun(mm:Nat) f H'=> ∃(j:Nat) (F':Fz),Fz.le g3 F'/\HS (Base.of H []) F' H' [b9,cc] R/\az f [(2,(pT b1 0)),(3,(pT b3 0)),(11,(iI (r:Int))),(75,(sL c7 A.length e5)),(76,(iI (A.length:Int))),(77,(iI (r:Int))),(82,(sL (cA (ad r) 0) (A.getD r default).length (cK (ad r) 0))),(83,(iI ((A.getD r default).length:Int))),(84,(iI (j:Int)))]/\mm=((A).getD r default).length-j/\(j<=((A).getD r default).length)/\(∀p,p<j->ft a r≠ft a (((A).getD r default).getD p 0).toNat)) _ ⟨0,_,fR,a1,⟨rfl,rfl,rfl,rfl,rfl,rfl,rfl,rfl,rfl,trivial⟩,rfl,(by first|assumption|omega|(simp at*;omega)),(by exact fun q h=>absurd h (a0t _))⟩ ?_;rintro hW i1 ih ⟨j,h0,a8,Z,ea,rfl,hj,hdj⟩ f5;refine ak _ ea (fun _=>?_);clear ea;replace E:=E.mono a8;replace c5:=c5.mono a8;refine zf 1 ?_;refine wT 2 [] 85 85 [] [(85,(.bool (decide ((j:Int)<((A.getD r default).length:Int)))))] rfl fun _=>?_
  refine zd 4 5 (fun g8=>?_) fun g8=>?_
  ·have hyl:=dy hrn (k:=j) (by omega);have hsy:=lst_at hrow (p:=j) (by omega);obtain⟨hn,e1⟩:=Sv.view (SR.sv c5 Z);have i3:=fI (e1 j);refine wR 2 [(1,.o (iI ((A.getD r default).getD j 0)))] 86 87 [14] [(14,(iI ((A.getD r default).getD j 0)))] (vA (Sv.ix (j:=(j:Int)) (SR.sv c5 Z)) (vA (ql 3 0 (vI (e1 j)) rfl rfl) trivial)) rfl fun _=>?_
   obtain⟨ht,b4⟩:=Sv.view (SR.sv E Z);have he:=LocT.fx (b4 r);have hf:=LocT.fx (b4 ((A.getD r default).getD j 0).toNat);refine wRD 1 [(1,.o (sL N a.locs.length U)),(4,.o (aG [(.bool (a.locs.getD r default).inS),(iI (a.locs.getD r default).idx)])),(6,.o (sL N a.locs.length U)),(9,.o (aG [(.bool (a.locs.getD ((A.getD r default).getD j 0).toNat default).inS),(iI (a.locs.getD ((A.getD r default).getD j 0).toNat default).idx)])),(10,.o (.bool (((a.locs.getD r default).inS==(a.locs.getD ((A.getD r default).getD j 0).toNat default).inS)&&(((a.locs.getD r default).idx==(a.locs.getD ((A.getD r default).getD j 0).toNat default).idx)&&true))))] 88 98 [] [(98,(.bool (((a.locs.getD r default).inS==(a.locs.getD ((A.getD r default).getD j 0).toNat default).inS)&&(((a.locs.getD r default).idx==(a.locs.getD ((A.getD r default).getD j 0).toNat default).idx)&&true))))] (vA (ql 37 0 (hc0 (HS.hc Z (i:=1) rfl)) rfl rfl) (vA (Sv.ix (j:=(r:Int)) (SR.sv E Z)) (vA (qn 57 0 2 (hc0 (LocT.vw (b4 r))) rfl rfl rfl rfl) (vA (ql 37 0 (hc0 (HS.hc Z (i:=1) rfl)) rfl rfl) (vA (Sv.ix (j:=((A.getD r default).getD j 0)) (SR.sv E Z)) (vA (qn 57 0 2 (hc0 (LocT.vw (b4 ((A.getD r default).getD j 0).toNat))) rfl rfl rfl rfl) (vA (agEq (P:=Tryd.prog) (t:=57) (xs:=[(.bool (a.locs.getD r default).inS),(iI (a.locs.getD r default).idx)]) (ys:=[(.bool (a.locs.getD ((A.getD r default).getD j 0).toNat default).inS),(iI (a.locs.getD ((A.getD r default).getD j 0).toNat default).idx)]) (bs:=[((a.locs.getD r default).inS==(a.locs.getD ((A.getD r default).getD j 0).toNat default).inS),((a.locs.getD r default).idx==(a.locs.getD ((A.getD r default).getD j 0).toNat default).idx)]) rfl rfl rfl (by kernel_rfl) (by kernel_rfl) (.cons ⟨by decide,_,_,rfl,rfl,eqB rfl⟩ (.cons ⟨by decide,_,_,rfl,rfl,eqI rfl⟩ .nil))) trivial))))))) rfl rfl fun _=>?_
   refine zi 1 2 (fun a7=>?_) fun a7=>?_
   ·have dk:=a7;try simp only[BS]at dk
    have heq:ft a r=ft a (((A).getD r default).getD j 0).toNat:=loc_eq a7;have hbad: ¬SndP c a:=fun h=>h.dis r _ (by omega) hsy heq
    refine wT 1 [] 4 4 [] [(4,(.bool false))] rfl fun _=>?_
    refine aj ⟨.inr rfl,_,rfl,false,_,(fT (fT (fT (fT (fT (ax) ag) al) ay) an) a8),(HS.forget Z),rfl,(by first|exact⟨fun h=>(by cases h),fun h=>absurd h hbad⟩|exact⟨fun _=>hfin,fun _=>rfl⟩)⟩
   have dk:=a7;try simp only[BS]at dk
   have hnn:ft a r≠ft a (((A).getD r default).getD j 0).toNat:=loc_nq a7;refine wU 1 [] 84 84 [99] [(84,(iI ((j:Int)+1)))] (vi (n:=(j:Int)+1)) rfl fun _=>?_
   refine f5 _ _ _ ?_ ⟨j+1,_,(a8),Z,⟨rfl,rfl,rfl,rfl,rfl,rfl,rfl,rfl,rfl,trivial⟩,rfl,(by first|assumption|omega|(simp at*;omega)),(by exact cv hdj hnn)⟩;omega
  refine wU 1 [] 77 77 [100] [(77,(iI ((r:Int)+1)))] (vi (n:=(r:Int)+1)) rfl fun _=>?_
  refine f4 _ _ _ ?_ ⟨r+1,_,(fT (an) a8),Z,⟨rfl,rfl,rfl,rfl,rfl,trivial⟩,rfl,(by first|assumption|omega|(simp at*;omega)),(by exact cv hdi (snd_row hrow (by omega) hdj))⟩;omega
 refine aa ?_;refine wUo 1 0 [(0,.o a2)] 101 101 [] [(101,a2)] (qn 24 0 3 (HS.hc a1 (i:=0) rfl) rfl rfl rfl rfl) rfl fun _=>?_
 refine zc (mg.across_c ex c (HS.call a1) (by first|(dsimp only;omega)|omega) (by first|(dsimp only;omega)|omega) T hT (by exact fun j=>a0c (hins j) (by omega))) ?_;rintro _ ik ⟨fi,f7,V,e9,g4,ci,c0,rfl,a4,hG,hC⟩;replace c0:HS _ _ _ [_,_,e9] _:=HS.back a1 rfl c0;refine wTo 2 2 [] 103 104 [] [(103,(iI (V.length:Int))),(104,(iI 0))] rfl fun _=>?_
 refine ze 2 ?_;refine ah (fun(mm:Nat) f H'=> ∃(p:Nat) (F':Fz),Fz.le g4 F'/\HS (Base.of H []) F' H' [b9,cc,e9] R/\az f [(3,(pT b3 0)),(102,(sL fi V.length f7)),(103,(iI (V.length:Int))),(104,(iI (p:Int)))]/\mm=(V).length-p/\(p<=(V).length)/\(∀q,q<p->(ft a ((V).getD q 0).toNat).inS=true)) _ ⟨0,_,fR,c0,⟨rfl,rfl,rfl,rfl,trivial⟩,rfl,(by first|assumption|omega|(simp at*;omega)),(by exact fun q h=>absurd h (a0t _))⟩ ?_;rintro hX i2 il ⟨p,h3,a9,av,em,rfl,hp,dt⟩ f6;refine ak _ em (fun _=>?_);clear em;replace E:=(E.mono ci).mono a9;replace a4:=a4.mono a9;refine zf 1 ?_;have hacl:=(by assumption:bJ c=true->Lst V (acS c)) hv;have har:=gt hacl (fun r h=>iU vF (a09 _) h);have hal:=Lst.len hacl hrg.1 (fun r h=>iU vF (a09 _) h);refine wT 2 [] 105 105 [] [(105,(.bool (decide ((p:Int)<(V.length:Int)))))] rfl fun _=>?_
 refine zd 4 5 (fun g9=>?_) fun g9=>?_
 ·have hxp:=dy har (k:=p) (by omega);have hsa:=lst_at hacl (p:=p) (by omega);obtain⟨hu,e2⟩:=Sv.view (OS.sv a4 av (i:=2) rfl);have ja:=fI (e2 p);refine wR 2 [(1,.o (iI (V.getD p 0)))] 106 107 [16] [(16,(iI (V.getD p 0)))] (vA (Sv.ix (j:=(p:Int)) (OS.sv a4 av (i:=2) rfl)) (vA (ql 3 0 (vI (e2 p)) rfl rfl) trivial)) rfl fun _=>?_
  obtain⟨hw,e3⟩:=Sv.view (SR.sv E av);have hg:=LocT.fx (e3 (V.getD p 0).toNat);refine wR 1 [(1,.o (sL N a.locs.length U)),(5,.o (.bool (a.locs.getD (V.getD p 0).toNat default).inS))] 108 114 [] [(114,(.bool (!(a.locs.getD (V.getD p 0).toNat default).inS)))] (vA (ql 37 0 (HS.hc av (i:=1) rfl) rfl rfl) (vA (Sv.ix (j:=(V.getD p 0)) (SR.sv E av)) (vA (ql 4 0 (LocT.vw (e3 (V.getD p 0).toNat)) rfl rfl) trivial))) rfl fun _=>?_
  refine zi 1 2 (fun b6=>?_) fun b6=>?_
  ·try simp only[BS]at b6
   have hbad: ¬SndP c a:=fun h=>by have h1:=h.acr _ hsa;have h2:=b6;(unfold ft at h1;simp_all)
   refine wT 1 [] 4 4 [] [(4,(.bool false))] rfl fun _=>?_
   refine aj ⟨.inr rfl,_,rfl,false,_,(fT (fT (fT (fT (fT (fT (ax) ag) al) ay) an) ci) a9),(HS.forget av),rfl,(by first|exact⟨fun h=>(by cases h),fun h=>absurd h hbad⟩|exact⟨fun _=>hfin,fun _=>rfl⟩)⟩
  try simp only[BS]at b6
  have hnn:(ft a ((V).getD p 0).toNat).inS=true:=by have h2:=b6;(unfold ft;simp_all)
  refine wU 1 [] 104 104 [115] [(104,(iI ((p:Int)+1)))] (vi (n:=(p:Int)+1)) rfl fun _=>?_
  refine f6 _ _ _ ?_ ⟨p+1,_,(a9),av,⟨rfl,rfl,rfl,rfl,trivial⟩,rfl,(by first|assumption|omega|(simp at*;omega)),(by exact cv dt hnn)⟩;omega
 have hfin:SndP c a:=⟨hv,hlen,hlo,hhi,hz,fun q hq=>hok q (by omega),fun q y hq=>hdi q (by omega) y,snd_acr hacl (by omega) dt⟩
 refine wT 1 [] 4 4 [] [(4,(.bool true))] rfl fun _=>?_
 refine aj ⟨.inr rfl,_,rfl,true,_,(fT (fT (fT (fT (fT (fT (ax) ag) al) ay) an) ci) a9),(HS.forget av),rfl,(by first|exact⟨fun h=>(by cases h),fun h=>absurd h hbad⟩|exact⟨fun _=>hfin,fun _=>rfl⟩)⟩
end Go.Proofs.YtknafdcgpaejlaaDoor.nv
