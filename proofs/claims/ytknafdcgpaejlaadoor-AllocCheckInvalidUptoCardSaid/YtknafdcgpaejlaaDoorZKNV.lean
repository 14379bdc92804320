/-
 Soundness of an allocation, the program and the reference, by symbolic runs. No condition but bounds on lengths.
-/
import Derived.Test.YtknafdcgpaejlaaDoorZKNI
noncomputable section
namespace Go.Proofs.YtknafdcgpaejlaaDoor.nv
open Go.R
set_option maxRecDepth 10000
set_option linter.unusedVariables false
set_option linter.unusedSimpArgs false
variable (ex:FuncId) {F:Fz} {H:Heap} {R:List Fp}
structure LocT where
 inS:Bool
 idx:Int
 deriving Inhabited,DecidableEq
instance :Rp LocT where
 sz:=2
 rep F cs x:=cs=[.bool x.inS,.int .i64 x.idx]/\in64 x.idx
 len:=by rintro F cs x ⟨rfl,_⟩;rfl
 one:=by rintro F cs x ⟨rfl,_⟩;rfl
 mono:=by intro F F' cs x _ h;exact h
theorem LocT.vw{F:Fz}{get:Nat->Option AObj}{v:Value}{cf:Nat->List Value}{j:Nat}{l:List LocT}(h:VW F get v l cf j)(hj:j<l.length):HC get (sB v) (sO v+j*Rp.sz LocT) [.bool (l.getD j default).inS,.int .i64 (l.getD j default).idx]:=by obtain⟨⟨E,_⟩,A⟩:=h.1 default hj;rw[show cf j=_ from E]at A;exact A
theorem LocT.fx{F:Fz}{get:Nat->Option AObj}{v:Value}{cf:Nat->List Value}{j:Nat}{l:List LocT}(h:VW F get v l cf j):in64 (l.getD j default).idx:=by
 rcases a0f j l.length with hj|hj
 ·obtain⟨⟨A,h0⟩,_⟩:=h.1 default hj;exact h0
 rw[cb hj];decide
structure SpiT where
 reg:Int
 why:Int
 blk:Int
 idx:Int
 oth:(List Int)
 deriving Inhabited,DecidableEq
instance :Rp SpiT where
 sz:=5
 rep F cs x:= ∃a4 k4,cs=[.int .i64 x.reg,.int .i64 x.why,.int .i64 x.blk,.int .i64 x.idx,.slice a4 x.oth.length k4]/\in64 x.reg/\in64 x.why/\in64 x.blk/\in64 x.idx/\SR F (.slice a4 x.oth.length k4) x.oth
 len:=by rintro F cs x ⟨a4,k4,rfl,_⟩;rfl
 one:=by rintro F cs x ⟨a4,k4,rfl,_⟩;rfl
 mono:=by rintro F F' cs x hF ⟨a4,k4,rfl,h0,h1,h2,h3,h4⟩;exact⟨a4,k4,rfl,h0,h1,h2,h3,h4.mono hF⟩
structure AllT where
 locs:(List LocT)
 spi:(List SpiT)
 slots:Int
 deriving Inhabited,DecidableEq
instance :Rp AllT where
 sz:=3
 rep F cs x:= ∃a0 k0 a1 k1,cs=[.slice a0 x.locs.length k0,.slice a1 x.spi.length k1,.int .i64 x.slots]/\in64 x.slots/\SR F (.slice a0 x.locs.length k0) x.locs/\SR F (.slice a1 x.spi.length k1) x.spi
 len:=by rintro F cs x ⟨a0,k0,a1,k1,rfl,_⟩;rfl
 one:=by rintro F cs x ⟨a0,k0,a1,k1,rfl,_⟩;rfl
 mono:=by rintro F F' cs x hF ⟨a0,k0,a1,k1,rfl,h0,h1,h2⟩;exact⟨a0,k0,a1,k1,rfl,h0,h1.mono hF,h2.mono hF⟩
open m1 m2 m3 m4 m5 m6 ma ml mb mc md mf mg mh mi mj na nb nc ni
theorem lst_rng{c:VFnT}{l:List Int}{S:Nat->Prop}(h:Lst l S)(hs: ∀r,S r->(r:Int)<c.regs): ∀x∈l,0<=x/\x<c.regs:=fun x hx=>by obtain⟨E,A⟩:=(h.mem x).1 hx;have:=hs _ A;omega
theorem lst_some{l:List Int}{S:Nat->Prop}(h:Lst l S)(hl:0<l.length): ∃r,S r:=by
 cases l with
 |nil=>exact absurd hl (Nat.lt_irrefl _)
 |cons x l=>exact⟨_,((h.mem x).1 (a0G ..)).2⟩
theorem inte_lt{c:VFnT}(v:VF c){a x:Nat}(h:j5 c a x):(a:Int)<c.regs/\(x:Int)<c.regs:=by obtain⟨b,i,A,E,J,N,_⟩:=h;exact⟨((bQ (v.ins b A i E)).2.1 _ J).2,jI v A N⟩
theorem sy_lt2{c:VFnT}(v:VF c){r y:Nat}(h:Sy (j5 c) r y):(y:Int)<c.regs:=h.elim (fun h=>(inte_lt v h).2) fun h=>(inte_lt v h).1
theorem in_some{c:VFnT}{x:List (List Int)}(h:Lst (x.getD 0 default) (LIn c 0))(hb:0<c.blocks.length)(hl:0<(x.getD 0 default).length): ∃r,ptS c 0 0 r:=by obtain⟨r,hr⟩:=lst_some h hl;exact⟨r,(pt_in hb _).2 hr⟩
theorem in_none{c:VFnT}{x:List (List Int)}(h:Lst (x.getD 0 default) (LIn c 0))(hb:0<c.blocks.length)(hl: ¬0<(x.getD 0 default).length): ∀r,¬ptS c 0 0 r:=fun r hr=>by have:=(pt_in hb _).1 hr;have A:=List.length_pos_of_mem ((h.mem (r:Int)).2 ⟨by omega,by rw[show((r:Nat):Int).toNat=r by omega];exact this⟩);omega
def okL(c:VFnT)(a:AllT)(x:LocT):Prop:=(x.inS=true->c.params<=x.idx/\x.idx<a.slots)/\(x.inS=false->0<=x.idx/\x.idx<5)
def cJ(a:AllT)(r:Nat):LocT:=a.locs.getD r default
structure SndP(c:VFnT)(a:AllT):Prop where
 val:bK c=true
 len:(a.locs.length:Int)=c.regs
 lo:c.params<=a.slots
 hi:a.slots<=3000
 z: ∀r,¬ptS c 0 0 r
 loc: ∀q,q<a.locs.length->okL c a (cJ a q)
 dis: ∀q y,q<a.locs.length->Sy (j5 c) q y->cJ a q≠cJ a y
 acr: ∀r,acS c r->(cJ a r).inS=true
theorem cz{P:Nat->Prop}{k:Nat}(h: ∀q,q<k->P q)(hk:P k): ∀q,q<k+1->P q:=fun q hq=>by
 rcases Nat.lt_or_eq_of_le (Nat.le_of_lt_succ hq) with A|rfl
 ·exact h q A
 exact hk
theorem snd_row{c:VFnT}{a:AllT}{row:List Int}{r n:Nat}(hl:Lst row (Sy (j5 c) r))(hn:row.length<=n)(h: ∀p,p<n->cJ a r≠cJ a (row.getD p 0).toNat): ∀y,Sy (j5 c) r y->cJ a r≠cJ a y:=fun y hy=>by have hm:=(hl.mem (y:Int)).2 ⟨by omega,by rw[show((y:Nat):Int).toNat=y by omega];exact hy⟩;obtain⟨p,hp,e⟩:=List.getElem_of_mem hm;have:=h p (by omega);rw[a02,a05 hp,a0P,e]at this;rwa [show((y:Nat):Int).toNat=y by omega]at this
theorem snd_acr{c:VFnT}{a:AllT}{l:List Int}{n:Nat}(hl:Lst l (acS c))(hn:l.length<=n)(h: ∀p,p<n->(cJ a (l.getD p 0).toNat).inS=true): ∀r,acS c r->(cJ a r).inS=true:=fun y hy=>by have hm:=(hl.mem (y:Int)).2 ⟨by omega,by rw[show((y:Nat):Int).toNat=y by omega];exact hy⟩;obtain⟨p,hp,e⟩:=List.getElem_of_mem hm;have:=h p (by omega);rw[a02,a05 hp,a0P,e]at this;rwa [show((y:Nat):Int).toNat=y by omega]at this
theorem snd_no0{c:VFnT}{a:AllT}(h:((((!(bK c))||((a.locs.length:Int) !=c.regs))||(decide (a.slots<c.params)))||(decide ((3000:Int)<a.slots)))=true): ¬SndP c a:=fun s=>by have A:=s.val;have E:=s.len;have J:=s.lo;have N:=s.hi;rw[A,E,decide_eq_false (by omega),decide_eq_false (by omega)]at h;simp at h
theorem snd_yes0{c:VFnT}{a:AllT}(h:((((!(bK c))||((a.locs.length:Int) !=c.regs))||(decide (a.slots<c.params)))||(decide ((3000:Int)<a.slots)))=false):bK c=true/\(a.locs.length:Int)=c.regs/\c.params<=a.slots/\a.slots<=3000:=by simp only[a17,decide_eq_false_iff_not,a1Q,bne_eq_false_iff_eq]at h;exact⟨h.1.1.1,h.1.1.2,by omega,by omega⟩
theorem ok_no{c:VFnT}{a:AllT}{x:LocT}{lo hi:Int}(hl:(x.inS=true/\lo=c.params/\hi=a.slots)\/(x.inS=false/\lo=0/\hi=5))(hb:((decide (x.idx<lo))||(decide (hi<=x.idx)))=true): ¬okL c a x:=fun h=>by
 rw[a0C,decide_eq_true_eq,decide_eq_true_eq]at hb;rcases hl with⟨e,rfl,rfl⟩|⟨e,rfl,rfl⟩
 ·have:=h.1 e;omega
 have:=h.2 e;omega
theorem ok_yes{c:VFnT}{a:AllT}{x:LocT}{lo hi:Int}(hl:(x.inS=true/\lo=c.params/\hi=a.slots)\/(x.inS=false/\lo=0/\hi=5))(hb:((decide (x.idx<lo))||(decide (hi<=x.idx)))=false):okL c a x:=by
 rw[a17,decide_eq_false_iff_not,decide_eq_false_iff_not]at hb;rcases hl with⟨e,rfl,rfl⟩|⟨e,rfl,rfl⟩
 ·exact⟨fun _=>by omega,fun h=>by rw[e]at h;cases h⟩
 exact⟨(fun h=>by rw[e]at h;cases h),fun _=>by omega⟩
theorem loc_eq{x y:LocT}(h:(x.inS==y.inS&&(x.idx==y.idx&&true))=true):x=y:=by obtain⟨a,i⟩:=x;obtain⟨b,j⟩:=y;simp at h;obtain⟨rfl,rfl⟩:=h;rfl
theorem loc_nq{x y:LocT}(h:(x.inS==y.inS&&(x.idx==y.idx&&true))=false):x≠y:=fun e=>by subst e;simp at h
theorem rok_no{c:VFnT}{a:AllT}{l:List Int}{r:Nat}(hl:Lst l (acS c))(hr:r<a.locs.length)(h:(((cJ a r).inS&&((decide ((cJ a r).idx<c.params))||(decide (a.slots<=(cJ a r).idx))))||((!(cJ a r).inS)&&(((decide ((cJ a r).idx<0))||(decide ((5:Int)<=(cJ a r).idx)))||ft l (r:Int))))=true): ¬SndP c a:=fun s=>by
 have A:=s.loc r hr;cases hi:(cJ a r).inS with
 |true=>
  have J:=A.1 hi
  rw[hi,decide_eq_false (by omega),decide_eq_false (by omega)]at h
  simp at h
 |false=>
  have J:=A.2 hi
  rw[hi,decide_eq_false (by omega: ¬(cJ a r).idx<0),decide_eq_false (by omega: ¬(5:Int)<=(cJ a r).idx)]at h
  simp only[a1x,a1p,a1h,a1M,fV]at h
  have E:=s.acr r (((hl.mem _).1 h).2)
  rw[hi]at E;cases E
theorem rok_yes{c:VFnT}{a:AllT}{l:List Int}{r:Nat}(hl:Lst l (acS c))(h:(((cJ a r).inS&&((decide ((cJ a r).idx<c.params))||(decide (a.slots<=(cJ a r).idx))))||((!(cJ a r).inS)&&(((decide ((cJ a r).idx<0))||(decide ((5:Int)<=(cJ a r).idx)))||ft l (r:Int))))=false):okL c a (cJ a r)/\(acS c r->(cJ a r).inS=true):=by
 cases hi:(cJ a r).inS with
 |true=>
  rw[hi]at h
  simp only[a1h,a1v,a1x,a1N,a17,decide_eq_false_iff_not]at h
  exact⟨⟨fun _=>by omega,fun A=>(by rw[hi]at A;cases A)⟩,fun _=>rfl⟩
 |false=>
  rw[hi]at h
  simp only[a1x,a1p,a1h,a1M,a17,decide_eq_false_iff_not]at h
  refine⟨⟨fun A=>(by rw[hi]at A;cases A),fun _=>by omega⟩,fun A=>?_⟩
  have E:=fV.2 ((hl.mem (r:Int)).2 ⟨by omega,by rw[show((r:Nat):Int).toNat=r by omega];exact A⟩)
  rw[E]at h;cases h.2
theorem lst_at{S:Nat->Prop}{l:List Int}{p:Nat}(hl:Lst l S)(hp:p<l.length):S (l.getD p 0).toNat:=((hl.mem _).1 (jW hp)).2
set_option maxHeartbeats 2000000 in
theorem sound_c{a4:Option Addr}{bb:Nat}(c:VFnT){bz:Option Addr}{b4:Nat}{N:Option Addr}{U:Nat}(a:AllT)(hs:HS (.of H []) F H [] R)(hV:in64 c.params)(hW:in64 c.regs)(T:SR F (.slice a4 c.blocks.length bb) c.blocks)(E:SR F (.slice N a.locs.length U) a.locs)(hR:SR F (.slice bz a.spi.length b4) a.spi)(hS:in64 a.slots)(hT:TB 37 tabC F)(hins: ∀j,(c.blocks.getD j default).ins.length<=1073741822):kKt ex 35 [(.agg ⟨[(iI c.params),(iI c.regs),(.slice a4 c.blocks.length bb)]⟩),(.agg ⟨[(.slice N a.locs.length U),(.slice bz a.spi.length b4),(iI a.slots)]⟩)] H fun v H'=> ∃(o:Bool) (F':Fz),Fz.le F F'/\HS (.of H []) F' H' [] R/\v= .bool o/\(o=true↔SndP c a):=by
 refine aH Tryd.func35 rfl rfl ?_;refine aj 1 rfl ?_;refine aa ?_;refine aE (aZ hs rfl rfl) rfl rfl ?_;rintro _ H2 _ ⟨b1,rfl,(hg:HS _ _ _ [[(b1,.cells [(iI c.params),(iI c.regs),(.slice a4 c.blocks.length bb)] none false)]] _),_⟩;refine aE (aZ hg rfl rfl) rfl rfl ?_;rintro _ H4 _ ⟨b3,rfl,(e6:HS _ _ _ [_,[(b3,.cells [(.slice N a.locs.length U),(.slice bz a.spi.length b4),(iI a.slots)] none false)]] _),_⟩;refine wa (.bool false) rfl rfl rfl ?_;refine ae 3 rfl ?_;refine aa ?_;let a1:Value:=(.agg ⟨[(iI c.params),(iI c.regs),(.slice a4 c.blocks.length bb)]⟩)
 refine wUo 1 0 [(0,.o a1)] 17 17 [] [(17,a1)] (qn 24 0 3 (HS.hc e6 (i:=0) rfl) rfl rfl rfl rfl) rfl fun _=>?_
 refine az (aq rfl rfl rfl) rfl rfl (m3.iX ex c (HS.call e6) (by first|(dsimp only;omega)|omega) (by first|(dsimp only;omega)|omega) T hT (by exact fun j=>a0c (hins j) (by omega))) ?_;rintro _ H6 ⟨r6,F6,aw,an,rfl,rfl⟩;replace an:HS _ _ _ [_,_] _:=HS.back e6 rfl an;replace hT:=hT.mono aw;replace E:=E.mono aw;replace T:=T.mono aw;refine wRo 21 2 [(5,.o (.slice N a.locs.length U)),(8,.o (iI c.regs)),(13,.o (iI a.slots)),(15,.o (iI c.params)),(20,.o (iI a.slots))] 19 39 [] [(39,(.bool ((((!(bK c))||((a.locs.length:Int) !=c.regs))||(decide (a.slots<c.params)))||(decide ((3000:Int)<a.slots)))))] (vA (fun(g1:(!(bK c))=false)=>(ql 37 0 (HS.hc an (i:=1) rfl) rfl rfl)) (vA (fun(g1:(!(bK c))=false)=>(ql 3 1 (HS.hc an (i:=0) rfl) rfl rfl)) (vA (fun(g1:((!(bK c))||((a.locs.length:Int) !=c.regs))=false)=>(ql 3 2 (HS.hc an (i:=1) rfl) rfl rfl)) (vA (fun(g1:((!(bK c))||((a.locs.length:Int) !=c.regs))=false)=>(ql 3 0 (HS.hc an (i:=0) rfl) rfl rfl)) (vA (fun(g1:(((!(bK c))||((a.locs.length:Int) !=c.regs))||(decide (a.slots<c.params)))=false)=>(ql 3 2 (HS.hc an (i:=1) rfl) rfl rfl)) trivial))))) rfl fun _=>?_
 refine ae 1 rfl ?_;refine ap 1 3 (v:=((((!(bK c))||((a.locs.length:Int) !=c.regs))||(decide (a.slots<c.params)))||(decide ((3000:Int)<a.slots)))) rfl rfl rfl rfl (fun b6=>?_) (fun b6=>?_)
 ·have c8:=b6;try simp only[BS]at c8
  have hbad: ¬SndP c a:=snd_no0 b6;refine wT 1 [] 4 4 [] [(4,(.bool false))] rfl fun _=>?_
  refine am ⟨.inr rfl,_,rfl,false,_,(aw),(HS.forget an),rfl,(by first|exact⟨fun h=>(by cases h),fun h=>absurd h hbad⟩|exact⟨fun _=>hfin,fun _=>rfl⟩)⟩
 have c8:=b6;try simp only[BS]at c8
 have hyy:=snd_yes0 b6;have hv:=hyy.1;have hlen:=hyy.2.1;have hlo:=hyy.2.2.1;have hhi:=hyy.2.2.2;have vF:=gF hv;have hnb:=vF.nb;have hrg:=vF.regs;have hpr:=vF.params;refine aa ?_;refine wUo 1 0 [(0,.o a1)] 41 41 [] [(41,a1)] (qn 24 0 3 (HS.hc an (i:=0) rfl) rfl rfl rfl rfl) rfl fun _=>?_
 refine az (aq rfl rfl rfl) rfl rfl (md.blocks_c ex c (HS.call an) (by first|(dsimp only;omega)|omega) (by first|(dsimp only;omega)|omega) T hT (by exact fun j=>a0c (hins j) (by omega))) ?_;rintro _ h9 ⟨go,g8,bl,hu,hX,j1,g9,ad,av,rfl,dk,ht,hI,hE⟩;replace av:HS _ _ _ [_,_] _:=HS.back an rfl av;replace hT:=hT.mono ad;replace E:=E.mono ad;replace T:=T.mono ad;refine wTo 5 2 [] 43 44 [5,6,40] [(5,(.slice go bl.length g8))] rfl fun _=>?_
 refine ae 2 rfl ?_;have bk:BkF c bl _:=(by assumption:bK c=true->BkF c bl _) hv;have hlx:=bk.lx;have f6:Lst ((bl).getD 0 default) (LIn c 0):=bk.hx 0 (by omega);obtain⟨es,fd⟩:=Sv.view (SR.sv dk av);have j0:=fL (fd 0);refine wR 1 [(2,.o (.slice (cA (es 0) 0) (bl.getD 0 default).length (cK (es 0) 0)))] 45 49 [] [(49,(.bool (decide ((0:Int)<((bl.getD 0 default).length:Int)))))] (vA (Sv.ix (j:=0) (SR.sv dk av) (by decide) (by first|(dsimp only;omega)|omega)) (vA (ql 25 0 (vL (fd 0) (by first|(dsimp only;omega)|omega)) rfl rfl) trivial)) rfl fun _=>?_
 refine ap 1 3 (v:=(decide ((0:Int)<((bl.getD 0 default).length:Int)))) rfl rfl rfl rfl (fun ch=>?_) (fun ch=>?_)
 ·have dt:=ch;try simp only[BS]at dt
  have hbad: ¬SndP c a:=fun h=>(in_some f6 (by omega) (by omega)).elim fun r hr=>h.z r hr
  refine wT 1 [] 4 4 [] [(4,(.bool false))] rfl fun _=>?_
  refine am ⟨.inr rfl,_,rfl,false,_,(fT (aw) ad),(HS.forget av),rfl,(by first|exact⟨fun h=>(by cases h),fun h=>absurd h hbad⟩|exact⟨fun _=>hfin,fun _=>rfl⟩)⟩
 have dt:=ch;try simp only[BS]at dt
 have hz: ∀r,¬ptS c 0 0 r:=in_none f6 (by omega) (by omega);refine wU 2 [(1,.o (.slice N a.locs.length U))] 50 53 [] [(51,(.slice N a.locs.length U)),(52,(iI (a.locs.length:Int))),(53,(iI 0))] (ql 37 0 (HS.hc av (i:=1) rfl) rfl rfl) rfl fun _=>?_
 let b7:Fp:=[(b1,.cells [(iI c.params),(iI c.regs),(.slice a4 c.blocks.length bb)] none false)]
 let b9:Fp:=[(b3,.cells [(.slice N a.locs.length U),(.slice bz a.spi.length b4),(iI a.slots)] none false)]
 refine ak (fun(mm:Nat) f H'=> ∃(k:Nat) (F':Fz),Fz.le g9 F'/\HS (Base.of H []) F' H' [b7,b9] R/\aD f [(2,(.pointer (some ⟨b1,0,none⟩))),(3,(.pointer (some ⟨b3,0,none⟩))),(51,(.slice N a.locs.length U)),(52,(iI (a.locs.length:Int))),(53,(iI (k:Int)))]/\mm=a.locs.length-k/\(k<=a.locs.length)/\(∀q,q<k->okL c a (cJ a q))) _ ⟨0,_,fR,av,(agC rfl (agC rfl (agC rfl (agC rfl (agC rfl agN))))),rfl,(by first|assumption|omega|(simp at*;omega)),(by exact fun q h=>absurd h (a0D _))⟩ ?_;rintro hY i2 ib ⟨k,ha,ag,ay,e1,rfl,hk,hok⟩ g3;refine au _ e1 (fun _=>?_);clear e1;replace hT:=hT.mono ag;replace E:=E.mono ag;replace T:=T.mono ag;refine aj 1 rfl ?_;refine wT 2 [] 54 54 [] [(54,(.bool (decide ((k:Int)<(a.locs.length:Int)))))] rfl fun _=>?_
 refine ap 4 6 (v:=(decide ((k:Int)<(a.locs.length:Int)))) rfl rfl rfl rfl (fun ci=>?_) (fun ci=>?_)
 ·have dv:=ci;try simp only[BS]at dv
  refine aa ?_;obtain⟨hw,fi⟩:=Sv.view (SR.sv E ay);have hh:=LocT.fx (fi k);let f8:Value:=(.agg ⟨[(.bool (a.locs.getD k default).inS),(iI (a.locs.getD k default).idx)]⟩)
  refine wRo 2 0 [(1,.o f8)] 55 56 [] [(56,f8)] (vA (Sv.ix (j:=(k:Int)) (SR.sv E ay) (by first|(dsimp only;omega)|omega) (by first|(dsimp only;omega)|omega)) (vA (qn 57 0 2 (LocT.vw (fi k) (by first|(dsimp only;omega)|omega)) rfl rfl rfl rfl) trivial)) rfl fun _=>?_
  refine aE (bd ay rfl) rfl rfl ?_;rintro _ ih _ ⟨dd,rfl,(g2:HS _ _ _ [_,_,[(dd,.cells [(.bool false),(iI 0)] none false)]] _),_⟩;refine aJ (aF (q:=2) g2 rfl rfl rfl rfl rfl rfl rfl rfl rfl) rfl ?_;rintro _ ii _ ⟨(a9:HS _ _ _ [_,_,[(dd,.cells [(.bool (a.locs.getD k default).inS),(iI (a.locs.getD k default).idx)] none false)]] _),_⟩;refine ae 2 rfl ?_;refine wT 3 [] 1 0 [9,10] [(9,(iI 0)),(10,(iI 5))] rfl fun _=>?_
  refine wU 1 [(1,.o (.bool (a.locs.getD k default).inS))] 57 58 [] [(58,(.bool (a.locs.getD k default).inS))] (ql 4 0 (HS.hc a9 (i:=2) rfl) rfl rfl) rfl fun _=>?_
  refine bG (fun f H'=> ∃(lo:Int) (hi:Int) (F':Fz),Fz.le ha F'/\HS (Base.of H []) F' H' [b7,b9,[(dd,.cells [(.bool (a.locs.getD k default).inS),(iI (a.locs.getD k default).idx)] none false)]] R/\aD f [(2,(.pointer (some ⟨b1,0,none⟩))),(3,(.pointer (some ⟨b3,0,none⟩))),(8,(.pointer (some ⟨dd,0,none⟩))),(9,(iI lo)),(10,(iI hi)),(51,(.slice N a.locs.length U)),(52,(iI (a.locs.length:Int))),(53,(iI (k:Int)))]/\(((a.locs.getD k default).inS=true/\lo=c.params/\hi=a.slots)\/((a.locs.getD k default).inS=false/\lo=0/\hi=5))/\(in64 lo)/\(in64 hi)) (fun f4=>?_) ?_
  ·refine ap 0 0 (v:=(a.locs.getD k default).inS) rfl rfl rfl rfl (fun co=>?_) (fun co=>?_)
   ·have d1:=co;try simp only[BS]at d1
    refine wRD 0 [(1,.o (iI c.params)),(3,.o (iI a.slots))] 59 62 [9,10] [(9,(iI c.params)),(10,(iI a.slots))] (vA (ql 3 0 (hc0 (HS.hc a9 (i:=0) rfl)) rfl rfl) (vA (ql 3 2 (hc0 (HS.hc a9 (i:=1) rfl)) rfl rfl) trivial)) rfl rfl fun _=>?_
    exact f4 _ _ ⟨c.params,a.slots,_,fR,a9,(agC rfl (agC rfl (agC rfl (agC rfl (agC rfl (agC rfl (agC rfl (agC rfl agN)))))))),(by first|exact .inl ⟨by assumption,rfl,rfl⟩|exact .inr ⟨by assumption,rfl,rfl⟩|exact .inl ⟨by simp_all,rfl,rfl⟩|exact .inr ⟨by simp_all,rfl,rfl⟩),(by first|assumption|omega|(simp at*;omega)),(by first|assumption|omega|(simp at*;omega))⟩
   have d1:=co;try simp only[BS]at d1
   exact f4 _ _ ⟨0,5,_,fR,a9,(agC rfl (agC rfl (agC rfl (agC rfl (agC rfl (agC rfl (agC rfl (agC rfl agN)))))))),(by first|exact .inl ⟨by assumption,rfl,rfl⟩|exact .inr ⟨by assumption,rfl,rfl⟩|exact .inl ⟨by simp_all,rfl,rfl⟩|exact .inr ⟨by simp_all,rfl,rfl⟩),(by first|assumption|omega|(simp at*;omega)),(by first|assumption|omega|(simp at*;omega))⟩
  skip;rintro i3 ik ⟨lo,hi,h6,ez,b0,e2,hlh,rlo,rhi⟩;refine au _ e2 (fun _=>?_);clear e2;refine aj 2 rfl ?_;refine wR 1 [(1,.o (iI (a.locs.getD k default).idx)),(6,.o (iI (a.locs.getD k default).idx))] 63 72 [] [(72,(.bool ((decide ((a.locs.getD k default).idx<lo))||(decide (hi<=(a.locs.getD k default).idx)))))] (vA (ql 3 1 (HS.hc b0 (i:=2) rfl) rfl rfl) (vA (fun(g1:(decide ((a.locs.getD k default).idx<lo))=false)=>(ql 3 1 (HS.hc b0 (i:=2) rfl) rfl rfl)) trivial)) rfl fun _=>?_
  refine ap 1 2 (v:=((decide ((a.locs.getD k default).idx<lo))||(decide (hi<=(a.locs.getD k default).idx)))) rfl rfl rfl rfl (fun a5=>?_) (fun a5=>?_)
  ·have d2:=a5;try simp only[BS]at d2
   have hbad: ¬SndP c a:=fun h=>ok_no hlh a5 (h.loc k (by omega))
   refine wT 1 [] 4 4 [] [(4,(.bool false))] rfl fun _=>?_
   refine am ⟨.inr rfl,_,rfl,false,_,(fT (fT (fT (aw) ad) ag) ez),(HS.forget b0),rfl,(by first|exact⟨fun h=>(by cases h),fun h=>absurd h hbad⟩|exact⟨fun _=>hfin,fun _=>rfl⟩)⟩
  have d2:=a5;try simp only[BS]at d2
  have hokk:okL c a (cJ a k):=ok_yes hlh a5;refine wU 1 [] 53 53 [73] [(53,(iI ((k:Int)+1)))] (vi (n:=(k:Int)+1) (by first|(dsimp only;omega)|omega)) rfl fun _=>?_
  refine g3 _ _ _ ?_ ⟨k+1,_,(fT (ag) ez),(HS.sub b0 (a03 _ _)),(agC rfl (agC rfl (agC rfl (agC rfl (agC rfl agN))))),rfl,(by first|assumption|omega|(simp at*;omega)),(by exact cz hok hokk)⟩;omega
 have dv:=ci;try simp only[BS]at dv
 refine aa ?_;refine wUo 1 0 [(0,.o a1)] 74 74 [] [(74,a1)] (qn 24 0 3 (HS.hc ay (i:=0) rfl) rfl rfl rfl rfl) rfl fun _=>?_
 refine az (aq rfl rfl rfl) rfl rfl (nb.inter_c ex c (HS.call ay) (by first|(dsimp only;omega)|omega) (by first|(dsimp only;omega)|omega) T hT (by assumption)) ?_;rintro _ il ⟨ds,f5,A,hb,ax,c7,rfl,a2,hK,hF⟩;replace c7:HS _ _ _ [_,_] _:=HS.back ay rfl c7;refine wTo 2 2 [] 76 77 [] [(76,(iI (A.length:Int))),(77,(iI 0))] rfl fun _=>?_
 refine ae 2 rfl ?_;refine ak (fun(mm:Nat) f H'=> ∃(r:Nat) (F':Fz),Fz.le hb F'/\HS (Base.of H []) F' H' [b7,b9] R/\aD f [(2,(.pointer (some ⟨b1,0,none⟩))),(3,(.pointer (some ⟨b3,0,none⟩))),(75,(.slice ds A.length f5)),(76,(iI (A.length:Int))),(77,(iI (r:Int)))]/\mm=a.locs.length-r/\(r<=a.locs.length)/\(∀q,q<r->∀y,Sy (j5 c) q y->cJ a q≠cJ a y)) _ ⟨0,_,fR,c7,(agC rfl (agC rfl (agC rfl (agC rfl (agC rfl agN))))),rfl,(by first|assumption|omega|(simp at*;omega)),(by exact fun q h=>absurd h (a0D _))⟩ ?_;rintro h3 ja it ⟨r,he,al,a0,e3,rfl,hr,hdi⟩ g4;refine au _ e3 (fun _=>?_);clear e3;replace hT:=(hT.mono ax).mono al;replace E:=(E.mono ax).mono al;replace T:=(T.mono ax).mono al;replace a2:=a2.mono al;refine aj 1 rfl ?_;have hif:=(by assumption:bK c=true->InF c A) hv;have hgl:=hif.len;refine wT 2 [] 78 78 [] [(78,(.bool (decide ((r:Int)<(A.length:Int)))))] rfl fun _=>?_
 refine ap 4 6 (v:=(decide ((r:Int)<(A.length:Int)))) rfl rfl rfl rfl (fun c0=>?_) (fun c0=>?_)
 ·have d3:=c0;try simp only[BS]at d3
  have hrow:Lst ((A).getD r default) (Sy (j5 c) r):=hif.row r (by omega);have hrl:=Lst.len hrow hrg.1 (fun y h=>(sy_lt2 vF h));have hrn:=lst_rng hrow (fun y h=>(sy_lt2 vF h));obtain⟨Z,f0⟩:=Sv.view (SR.sv a2 a0);have dl:=fL (f0 r);refine wR 2 [(2,.o (.slice (cA (Z r) 0) (A.getD r default).length (cK (Z r) 0)))] 79 81 [11,12] [(11,(iI (r:Int))),(12,(.slice (cA (Z r) 0) (A.getD r default).length (cK (Z r) 0)))] (vA (Sv.ix (j:=(r:Int)) (SR.sv a2 a0) (by first|(dsimp only;omega)|omega) (by first|(dsimp only;omega)|omega)) (vA (ql 25 0 (vL (f0 r) (by first|(dsimp only;omega)|omega)) rfl rfl) trivial)) rfl fun _=>?_
  refine wT 2 [] 82 84 [] [(82,(.slice (cA (Z r) 0) (A.getD r default).length (cK (Z r) 0))),(83,(iI ((A.getD r default).length:Int))),(84,(iI 0))] rfl fun _=>?_
  refine ak (fun(mm:Nat) f H'=> ∃(j:Nat) (F':Fz),Fz.le he F'/\HS (Base.of H []) F' H' [b7,b9] R/\aD f [(2,(.pointer (some ⟨b1,0,none⟩))),(3,(.pointer (some ⟨b3,0,none⟩))),(11,(iI (r:Int))),(75,(.slice ds A.length f5)),(76,(iI (A.length:Int))),(77,(iI (r:Int))),(82,(.slice (cA (Z r) 0) (A.getD r default).length (cK (Z r) 0))),(83,(iI ((A.getD r default).length:Int))),(84,(iI (j:Int)))]/\mm=((A).getD r default).length-j/\(j<=((A).getD r default).length)/\(∀p,p<j->cJ a r≠cJ a (((A).getD r default).getD p 0).toNat)) _ ⟨0,_,fR,a0,(agC rfl (agC rfl (agC rfl (agC rfl (agC rfl (agC rfl (agC rfl (agC rfl (agC rfl agN))))))))),rfl,(by first|assumption|omega|(simp at*;omega)),(by exact fun q h=>absurd h (a0D _))⟩ ?_;rintro h4 jb iv ⟨j,h7,a7,V,e4,rfl,hj,hdj⟩ g5;refine au _ e4 (fun _=>?_);clear e4;replace E:=E.mono a7;replace dl:=dl.mono a7;refine aj 1 rfl ?_;refine wT 2 [] 85 85 [] [(85,(.bool (decide ((j:Int)<((A.getD r default).length:Int)))))] rfl fun _=>?_
  refine ap 4 5 (v:=(decide ((j:Int)<((A.getD r default).length:Int)))) rfl rfl rfl rfl (fun c3=>?_) (fun c3=>?_)
  ·have d4:=c3;try simp only[BS]at d4
   have hyl:=e7 hrn (k:=j) (by omega);have hsy:=lst_at hrow (p:=j) (by omega);obtain⟨hA,f1⟩:=Sv.view (SR.sv dl V);have jq:=fI (f1 j);refine wR 2 [(1,.o (iI ((A.getD r default).getD j 0)))] 86 87 [14] [(14,(iI ((A.getD r default).getD j 0)))] (vA (Sv.ix (j:=(j:Int)) (SR.sv dl V) (by first|(dsimp only;omega)|omega) (by first|(dsimp only;omega)|omega)) (vA (ql 3 0 (vI (f1 j) (by first|(dsimp only;omega)|omega)) rfl rfl) trivial)) rfl fun _=>?_
   obtain⟨hB,b2⟩:=Sv.view (SR.sv E V);have hl:=LocT.fx (b2 r);have hm:=LocT.fx (b2 ((A.getD r default).getD j 0).toNat);refine wRD 1 [(1,.o (.slice N a.locs.length U)),(4,.o (.agg ⟨[(.bool (a.locs.getD r default).inS),(iI (a.locs.getD r default).idx)]⟩)),(6,.o (.slice N a.locs.length U)),(9,.o (.agg ⟨[(.bool (a.locs.getD ((A.getD r default).getD j 0).toNat default).inS),(iI (a.locs.getD ((A.getD r default).getD j 0).toNat default).idx)]⟩)),(10,.o (.bool (((a.locs.getD r default).inS==(a.locs.getD ((A.getD r default).getD j 0).toNat default).inS)&&(((a.locs.getD r default).idx==(a.locs.getD ((A.getD r default).getD j 0).toNat default).idx)&&true))))] 88 98 [] [(98,(.bool (((a.locs.getD r default).inS==(a.locs.getD ((A.getD r default).getD j 0).toNat default).inS)&&(((a.locs.getD r default).idx==(a.locs.getD ((A.getD r default).getD j 0).toNat default).idx)&&true))))] (vA (ql 37 0 (hc0 (HS.hc V (i:=1) rfl)) rfl rfl) (vA (Sv.ix (j:=(r:Int)) (SR.sv E V) (by first|(dsimp only;omega)|omega) (by first|(dsimp only;omega)|omega)) (vA (qn 57 0 2 (hc0 (LocT.vw (b2 r) (by first|(dsimp only;omega)|omega))) rfl rfl rfl rfl) (vA (ql 37 0 (hc0 (HS.hc V (i:=1) rfl)) rfl rfl) (vA (Sv.ix (j:=((A.getD r default).getD j 0)) (SR.sv E V) (by first|(dsimp only;omega)|omega) (by first|(dsimp only;omega)|omega)) (vA (qn 57 0 2 (hc0 (LocT.vw (b2 ((A.getD r default).getD j 0).toNat) (by first|(dsimp only;omega)|omega))) rfl rfl rfl rfl) (vA (agEq (P:=Tryd.prog) (t:=57) (xs:=[(.bool (a.locs.getD r default).inS),(iI (a.locs.getD r default).idx)]) (ys:=[(.bool (a.locs.getD ((A.getD r default).getD j 0).toNat default).inS),(iI (a.locs.getD ((A.getD r default).getD j 0).toNat default).idx)]) (bs:=[((a.locs.getD r default).inS==(a.locs.getD ((A.getD r default).getD j 0).toNat default).inS),((a.locs.getD r default).idx==(a.locs.getD ((A.getD r default).getD j 0).toNat default).idx)]) rfl rfl rfl (by kernel_rfl) (by kernel_rfl) (.cons ⟨by decide,_,_,rfl,rfl,eqB rfl⟩ (.cons ⟨by decide,_,_,rfl,rfl,eqI rfl⟩ .nil))) trivial))))))) rfl rfl fun _=>?_
   refine ap 1 2 (v:=(((a.locs.getD r default).inS==(a.locs.getD ((A.getD r default).getD j 0).toNat default).inS)&&(((a.locs.getD r default).idx==(a.locs.getD ((A.getD r default).getD j 0).toNat default).idx)&&true))) rfl rfl rfl rfl (fun a6=>?_) (fun a6=>?_)
   ·have ea:=a6;try simp only[BS]at ea
    have heq:cJ a r=cJ a (((A).getD r default).getD j 0).toNat:=loc_eq a6;have hbad: ¬SndP c a:=fun h=>h.dis r _ (by omega) hsy heq
    refine wT 1 [] 4 4 [] [(4,(.bool false))] rfl fun _=>?_
    refine am ⟨.inr rfl,_,rfl,false,_,(fT (fT (fT (fT (fT (aw) ad) ag) ax) al) a7),(HS.forget V),rfl,(by first|exact⟨fun h=>(by cases h),fun h=>absurd h hbad⟩|exact⟨fun _=>hfin,fun _=>rfl⟩)⟩
   have ea:=a6;try simp only[BS]at ea
   have hnn:cJ a r≠cJ a (((A).getD r default).getD j 0).toNat:=loc_nq a6;refine wU 1 [] 84 84 [99] [(84,(iI ((j:Int)+1)))] (vi (n:=(j:Int)+1) (by first|(dsimp only;omega)|omega)) rfl fun _=>?_
   refine g5 _ _ _ ?_ ⟨j+1,_,(a7),V,(agC rfl (agC rfl (agC rfl (agC rfl (agC rfl (agC rfl (agC rfl (agC rfl (agC rfl agN))))))))),rfl,(by first|assumption|omega|(simp at*;omega)),(by exact cz hdj hnn)⟩;omega
  have d4:=c3;try simp only[BS]at d4
  refine wU 1 [] 77 77 [100] [(77,(iI ((r:Int)+1)))] (vi (n:=(r:Int)+1) (by first|(dsimp only;omega)|omega)) rfl fun _=>?_
  refine g4 _ _ _ ?_ ⟨r+1,_,(fT (al) a7),V,(agC rfl (agC rfl (agC rfl (agC rfl (agC rfl agN))))),rfl,(by first|assumption|omega|(simp at*;omega)),(by exact cz hdi (snd_row hrow (by omega) hdj))⟩;omega
 have d3:=c0;try simp only[BS]at d3
 refine aa ?_;refine wUo 1 0 [(0,.o a1)] 101 101 [] [(101,a1)] (qn 24 0 3 (HS.hc a0 (i:=0) rfl) rfl rfl rfl rfl) rfl fun _=>?_
 refine az (aq rfl rfl rfl) rfl rfl (mg.across_c ex c (HS.call a0) (by first|(dsimp only;omega)|omega) (by first|(dsimp only;omega)|omega) T hT (by exact fun j=>a0c (hins j) (by omega))) ?_;rintro _ iz ⟨f9,g7,J,f7,hf,c6,c9,rfl,a3,hM,hG⟩;replace c9:HS _ _ _ [_,_,f7] _:=HS.back a0 rfl c9;refine wTo 2 2 [] 103 104 [] [(103,(iI (J.length:Int))),(104,(iI 0))] rfl fun _=>?_
 refine ae 2 rfl ?_;refine ak (fun(mm:Nat) f H'=> ∃(p:Nat) (F':Fz),Fz.le hf F'/\HS (Base.of H []) F' H' [b7,b9,f7] R/\aD f [(3,(.pointer (some ⟨b3,0,none⟩))),(102,(.slice f9 J.length g7)),(103,(iI (J.length:Int))),(104,(iI (p:Int)))]/\mm=(J).length-p/\(p<=(J).length)/\(∀q,q<p->(cJ a ((J).getD q 0).toNat).inS=true)) _ ⟨0,_,fR,c9,(agC rfl (agC rfl (agC rfl (agC rfl agN)))),rfl,(by first|assumption|omega|(simp at*;omega)),(by exact fun q h=>absurd h (a0D _))⟩ ?_;rintro h5 jc i1 ⟨p,h8,a8,ar,e5,rfl,hp,e0⟩ g6;refine au _ e5 (fun _=>?_);clear e5;replace E:=(E.mono c6).mono a8;replace a3:=a3.mono a8;refine aj 1 rfl ?_;have hacl:=(by assumption:bK c=true->Lst J (acS c)) hv;have har:=lst_rng hacl (fun r h=>ack_lt vF (a09 _) h);have hal:=Lst.len hacl hrg.1 (fun r h=>ack_lt vF (a09 _) h);refine wT 2 [] 105 105 [] [(105,(.bool (decide ((p:Int)<(J.length:Int)))))] rfl fun _=>?_
 refine ap 4 5 (v:=(decide ((p:Int)<(J.length:Int)))) rfl rfl rfl rfl (fun c4=>?_) (fun c4=>?_)
 ·have em:=c4;try simp only[BS]at em
  have hxp:=e7 har (k:=p) (by omega);have hsa:=lst_at hacl (p:=p) (by omega);obtain⟨hC,f2⟩:=Sv.view (OS.sv a3 ar (i:=2) rfl);have jw:=fI (f2 p);refine wR 2 [(1,.o (iI (J.getD p 0)))] 106 107 [16] [(16,(iI (J.getD p 0)))] (vA (Sv.ix (j:=(p:Int)) (OS.sv a3 ar (i:=2) rfl) (by first|(dsimp only;omega)|omega) (by first|(dsimp only;omega)|omega)) (vA (ql 3 0 (vI (f2 p) (by first|(dsimp only;omega)|omega)) rfl rfl) trivial)) rfl fun _=>?_
  obtain⟨hD,f3⟩:=Sv.view (SR.sv E ar);have hn:=LocT.fx (f3 (J.getD p 0).toNat);refine wR 1 [(1,.o (.slice N a.locs.length U)),(5,.o (.bool (a.locs.getD (J.getD p 0).toNat default).inS))] 108 114 [] [(114,(.bool (!(a.locs.getD (J.getD p 0).toNat default).inS)))] (vA (ql 37 0 (HS.hc ar (i:=1) rfl) rfl rfl) (vA (Sv.ix (j:=(J.getD p 0)) (SR.sv E ar) (by first|(dsimp only;omega)|omega) (by first|(dsimp only;omega)|omega)) (vA (ql 4 0 (LocT.vw (f3 (J.getD p 0).toNat) (by first|(dsimp only;omega)|omega)) rfl rfl) trivial))) rfl fun _=>?_
  refine ap 1 2 (v:=(!(a.locs.getD (J.getD p 0).toNat default).inS)) rfl rfl rfl rfl (fun c5=>?_) (fun c5=>?_)
  ·have b5:=c5;try simp only[BS]at b5
   have hbad: ¬SndP c a:=fun h=>by have h1:=h.acr _ hsa;have h2:=b5;(unfold cJ at h1;simp_all)
   refine wT 1 [] 4 4 [] [(4,(.bool false))] rfl fun _=>?_
   refine am ⟨.inr rfl,_,rfl,false,_,(fT (fT (fT (fT (fT (fT (aw) ad) ag) ax) al) c6) a8),(HS.forget ar),rfl,(by first|exact⟨fun h=>(by cases h),fun h=>absurd h hbad⟩|exact⟨fun _=>hfin,fun _=>rfl⟩)⟩
  have b5:=c5;try simp only[BS]at b5
  have hnn:(cJ a ((J).getD p 0).toNat).inS=true:=by have h2:=b5;(unfold cJ;simp_all)
  refine wU 1 [] 104 104 [115] [(104,(iI ((p:Int)+1)))] (vi (n:=(p:Int)+1) (by first|(dsimp only;omega)|omega)) rfl fun _=>?_
  refine g6 _ _ _ ?_ ⟨p+1,_,(a8),ar,(agC rfl (agC rfl (agC rfl (agC rfl agN)))),rfl,(by first|assumption|omega|(simp at*;omega)),(by exact cz e0 hnn)⟩;omega
 have em:=c4;try simp only[BS]at em
 have hfin:SndP c a:=⟨hv,hlen,hlo,hhi,hz,fun q hq=>hok q (by omega),fun q y hq=>hdi q (by omega) y,snd_acr hacl (by omega) e0⟩
 refine wT 1 [] 4 4 [] [(4,(.bool true))] rfl fun _=>?_
 refine am ⟨.inr rfl,_,rfl,true,_,(fT (fT (fT (fT (fT (fT (aw) ad) ag) ax) al) c6) a8),(HS.forget ar),rfl,(by first|exact⟨fun h=>(by cases h),fun h=>absurd h hbad⟩|exact⟨fun _=>hfin,fun _=>rfl⟩)⟩
set_option maxHeartbeats 2000000 in
theorem rsound_c{a3:Option Addr}{a7:Nat}(c:VFnT){bb:Option Addr}{bz:Nat}{an:Option Addr}{av:Nat}(a:AllT)(hs:HS (.of H []) F H [] R)(hm:in64 c.params)(hn:in64 c.regs)(V:SR F (.slice a3 c.blocks.length a7) c.blocks)(J:SR F (.slice an a.locs.length av) a.locs)(hk:SR F (.slice bb a.spi.length bz) a.spi)(hl:in64 a.slots)(hT:TB 37 tabC F)(hins: ∀j,(c.blocks.getD j default).ins.length<=1073741822):kKt ex 36 [(.agg ⟨[(iI c.params),(iI c.regs),(.slice a3 c.blocks.length a7)]⟩),(.agg ⟨[(.slice an a.locs.length av),(.slice bb a.spi.length bz),(iI a.slots)]⟩)] H fun v H'=> ∃(o:Bool) (F':Fz),Fz.le F F'/\HS (.of H []) F' H' [] R/\v= .bool o/\(o=true↔SndP c a):=by
 refine aH Tryd.func36 rfl rfl ?_;refine aj 1 rfl ?_;refine aa ?_;refine aE (aZ hs rfl rfl) rfl rfl ?_;rintro _ H2 _ ⟨b1,rfl,(f8:HS _ _ _ [[(b1,.cells [(iI c.params),(iI c.regs),(.slice a3 c.blocks.length a7)] none false)]] _),_⟩;refine aE (aZ f8 rfl rfl) rfl rfl ?_;rintro _ H4 _ ⟨b3,rfl,(dt:HS _ _ _ [_,[(b3,.cells [(.slice an a.locs.length av),(.slice bb a.spi.length bz),(iI a.slots)] none false)]] _),_⟩;refine wa (.bool false) rfl rfl rfl ?_;refine ae 3 rfl ?_;refine aa ?_;let a9:Value:=(.agg ⟨[(iI c.params),(iI c.regs),(.slice a3 c.blocks.length a7)]⟩)
 refine wUo 1 0 [(0,.o a9)] 12 12 [] [(12,a9)] (qn 24 0 3 (HS.hc dt (i:=0) rfl) rfl rfl rfl rfl) rfl fun _=>?_
 refine az (aq rfl rfl rfl) rfl rfl (m3.fk ex c (HS.call dt) (by first|(dsimp only;omega)|omega) (by first|(dsimp only;omega)|omega) V hT (by exact fun j=>a0c (hins j) (by omega))) ?_;rintro _ H6 ⟨r6,F6,a1,al,rfl,rfl⟩;replace al:HS _ _ _ [_,_] _:=HS.back dt rfl al;replace hT:=hT.mono a1;replace J:=J.mono a1;replace V:=V.mono a1;refine wRo 21 2 [(5,.o (.slice an a.locs.length av)),(8,.o (iI c.regs)),(13,.o (iI a.slots)),(15,.o (iI c.params)),(20,.o (iI a.slots))] 14 34 [] [(34,(.bool ((((!(bK c))||((a.locs.length:Int) !=c.regs))||(decide (a.slots<c.params)))||(decide ((3000:Int)<a.slots)))))] (vA (fun(g1:(!(bK c))=false)=>(ql 37 0 (HS.hc al (i:=1) rfl) rfl rfl)) (vA (fun(g1:(!(bK c))=false)=>(ql 3 1 (HS.hc al (i:=0) rfl) rfl rfl)) (vA (fun(g1:((!(bK c))||((a.locs.length:Int) !=c.regs))=false)=>(ql 3 2 (HS.hc al (i:=1) rfl) rfl rfl)) (vA (fun(g1:((!(bK c))||((a.locs.length:Int) !=c.regs))=false)=>(ql 3 0 (HS.hc al (i:=0) rfl) rfl rfl)) (vA (fun(g1:(((!(bK c))||((a.locs.length:Int) !=c.regs))||(decide (a.slots<c.params)))=false)=>(ql 3 2 (HS.hc al (i:=1) rfl) rfl rfl)) trivial))))) rfl fun _=>?_
 refine ae 1 rfl ?_;refine ap 1 2 (v:=((((!(bK c))||((a.locs.length:Int) !=c.regs))||(decide (a.slots<c.params)))||(decide ((3000:Int)<a.slots)))) rfl rfl rfl rfl (fun b0=>?_) (fun b0=>?_)
 ·have c8:=b0;try simp only[BS]at c8
  have hbad: ¬SndP c a:=snd_no0 b0;refine wT 1 [] 4 4 [] [(4,(.bool false))] rfl fun _=>?_
  refine am ⟨.inr rfl,_,rfl,false,_,(a1),(HS.forget al),rfl,(by first|exact⟨fun h=>(by cases h),fun h=>absurd h hbad⟩|exact⟨fun _=>hfin,fun _=>rfl⟩)⟩
 have c8:=b0;try simp only[BS]at c8
 have hyy:=snd_yes0 b0;have hv:=hyy.1;have hlen:=hyy.2.1;have hlo:=hyy.2.2.1;have hhi:=hyy.2.2.2;have vF:=gF hv;have hnb:=vF.nb;have hrg:=vF.regs;have hpr:=vF.params;refine aa ?_;refine wUo 1 0 [(0,.o a9)] 36 36 [] [(36,a9)] (qn 24 0 3 (HS.hc al (i:=0) rfl) rfl rfl rfl rfl) rfl fun _=>?_
 refine az (aq rfl rfl rfl) rfl rfl (mi.rblocks_c ex c (HS.call al) (by first|(dsimp only;omega)|omega) (by first|(dsimp only;omega)|omega) V hT (by exact fun j=>a0c (hins j) (by omega))) ?_;rintro _ hC ⟨e4,f1,a8,g6,hp,hR,hw,ar,Z,rfl,ci,g0,hf,ha⟩;replace Z:HS _ _ _ [_,_] _:=HS.back al rfl Z;replace hT:=hT.mono ar;replace J:=J.mono ar;replace V:=V.mono ar;refine wTo 5 2 [] 38 39 [5,6,35] [(5,(.slice e4 a8.length f1))] rfl fun _=>?_
 refine ae 3 rfl ?_;have bk:BkF c a8 _:=(by assumption:bK c=true->BkF c a8 _) hv;have hlx:=bk.lx;have e0:Lst ((a8).getD 0 default) (LIn c 0):=bk.hx 0 (by omega);obtain⟨c9,dv⟩:=Sv.view (SR.sv ci Z);have hM:=fL (dv 0);refine wR 1 [(2,.o (.slice (cA (c9 0) 0) (a8.getD 0 default).length (cK (c9 0) 0)))] 40 44 [] [(44,(.bool (decide ((0:Int)<((a8.getD 0 default).length:Int)))))] (vA (Sv.ix (j:=0) (SR.sv ci Z) (by decide) (by first|(dsimp only;omega)|omega)) (vA (ql 25 0 (vL (dv 0) (by first|(dsimp only;omega)|omega)) rfl rfl) trivial)) rfl fun _=>?_
 refine ap 1 2 (v:=(decide ((0:Int)<((a8.getD 0 default).length:Int)))) rfl rfl rfl rfl (fun b5=>?_) (fun b5=>?_)
 ·have c3:=b5;try simp only[BS]at c3
  have hbad: ¬SndP c a:=fun h=>(in_some e0 (by omega) (by omega)).elim fun r hr=>h.z r hr
  refine wT 1 [] 4 4 [] [(4,(.bool false))] rfl fun _=>?_
  refine am ⟨.inr rfl,_,rfl,false,_,(fT (a1) ar),(HS.forget Z),rfl,(by first|exact⟨fun h=>(by cases h),fun h=>absurd h hbad⟩|exact⟨fun _=>hfin,fun _=>rfl⟩)⟩
 have c3:=b5;try simp only[BS]at c3
 have hz: ∀r,¬ptS c 0 0 r:=in_none e0 (by omega) (by omega);refine aW rfl ?_;refine aG (v:=a9) (id:= .l b1) (cN (i:=0) rfl rfl rfl (HS.hc Z.log0 (i:=0) rfl) rfl rfl rfl) rfl rfl (bu rfl) trivial ?_;refine be (W:=[]) (aq rfl rfl rfl) rfl rfl rfl (ni.rinter_c ex c (HS.call Z.log0) (by first|(dsimp only;omega)|omega) (by first|(dsimp only;omega)|omega) V hT (by assumption)) (⟨.inl rfl,trivial⟩) ?_;rintro _ f6 ⟨b2,b9,A,hA,ax,N,rfl,U,hg,hb⟩;refine⟨Wr.did N.log,fun f2 et=>?_⟩;replace N:=HS.back Z.log0 rfl N;replace N:=HS.lg N Z et;generalize ({f6 with log:=f2}:Heap)=g4 at N⊢;have N:HS _ _ _ [_,_] _:=N;replace hT:=hT.mono ax;replace V:=V.mono ax;refine aG (v:=a9) (id:= .l b1) (cN (i:=0) rfl rfl rfl (HS.hc N.log0 (i:=0) rfl) rfl rfl rfl) rfl rfl (bu rfl) (⟨.inr a0g,⟨.inr trivial,trivial⟩⟩) ?_;refine be (W:=[]) (aq rfl rfl rfl) rfl rfl rfl (mj.rac_c ex c (HS.call N.log0) (by first|(dsimp only;omega)|omega) (by first|(dsimp only;omega)|omega) V hT (by exact fun j=>a0c (hins j) (by omega))) (⟨.inl rfl,⟨.inl rfl,⟨.inl rfl,trivial⟩⟩⟩) ?_;rintro _ f7 ⟨b4,cc,a2,f4,ay,ad,rfl,bl,hh,he⟩;refine⟨Wr.did ad.log,fun f3 ez=>?_⟩;replace ad:=HS.back N.log0 rfl ad;replace ad:=HS.lg ad N ez;generalize ({f7 with log:=f3}:Heap)=g5 at ad⊢;have ad:HS _ _ _ [_,_] _:=ad;refine fa (.slice b2 A.length b9) rfl rfl rfl ?_;refine fa (.slice b4 a2.length cc) rfl rfl rfl ?_;refine cg ?_;refine aj 3 rfl ?_;have hif:=(by assumption:bK c=true->InF c A) hv;have hgl:=hif.len;have hacl:=(by assumption:bK c=true->Lst a2 (acS c)) hv;have hal:=Lst.len hacl hrg.1 (fun r h=>ack_lt vF (a09 _) h);refine wT 2 [] 1 0 [9] [(9,(iI 0))] rfl fun _=>?_
 let e2:Fp:=[(b1,.cells [(iI c.params),(iI c.regs),(.slice a3 c.blocks.length a7)] none false)]
 let e3:Fp:=[(b3,.cells [(.slice an a.locs.length av),(.slice bb a.spi.length bz),(iI a.slots)] none false)]
 refine ak (fun(mm:Nat) f H'=> ∃(r:Nat) (F':Fz),Fz.le f4 F'/\HS (Base.of H []) F' H' [e2,e3] R/\aD f [(2,(.pointer (some ⟨b1,0,none⟩))),(3,(.pointer (some ⟨b3,0,none⟩))),(7,(.slice b2 A.length b9)),(8,(.slice b4 a2.length cc)),(9,(iI (r:Int)))]/\mm=a.locs.length-r/\(r<=a.locs.length)/\(∀q,q<r->okL c a (cJ a q))/\(∀q,q<r->acS c q->(cJ a q).inS=true)/\(∀q,q<r->∀y,Sy (j5 c) q y->cJ a q≠cJ a y)) _ ⟨0,_,fR,ad,(agC rfl (agC rfl (agC rfl (agC rfl (agC rfl agN))))),rfl,(by first|assumption|omega|(simp at*;omega)),(by exact fun q h=>absurd h (a0D _)),(by exact fun q h=>absurd h (a0D _)),(by exact fun q h=>absurd h (a0D _))⟩ ?_;rintro ht hH hD ⟨r,f5,ag,a0,dn,rfl,hr,hok,dl,hdi⟩ fi;refine au _ dn (fun _=>?_);clear dn;replace hT:=(hT.mono ay).mono ag;replace J:=((J.mono ax).mono ay).mono ag;replace U:=(U.mono ay).mono ag;replace bl:=bl.mono ag;refine aj 2 rfl ?_;refine wU 1 [(2,.o (iI c.regs))] 49 52 [] [(52,(.bool (decide ((r:Int)<c.regs))))] (ql 3 1 (HS.hc a0 (i:=0) rfl) rfl rfl) rfl fun _=>?_
 refine ap 4 5 (v:=(decide ((r:Int)<c.regs))) rfl rfl rfl rfl (fun b6=>?_) (fun b6=>?_)
 ·have c4:=b6;try simp only[BS]at c4
  have hrow:Lst ((A).getD r default) (Sy (j5 c) r):=hif.row r (by omega);have hrl:=Lst.len hrow hrg.1 (fun y h=>(sy_lt2 vF h));have hrn:=lst_rng hrow (fun y h=>(sy_lt2 vF h));refine aa ?_;obtain⟨g7,d1⟩:=Sv.view (SR.sv J a0);have f9:=LocT.fx (d1 r);let em:Value:=(.agg ⟨[(.bool (a.locs.getD r default).inS),(iI (a.locs.getD r default).idx)]⟩)
  refine wRo 5 0 [(1,.o (.slice an a.locs.length av)),(4,.o em)] 55 59 [] [(59,em)] (vA (ql 37 0 (HS.hc a0 (i:=1) rfl) rfl rfl) (vA (Sv.ix (j:=(r:Int)) (SR.sv J a0) (by first|(dsimp only;omega)|omega) (by first|(dsimp only;omega)|omega)) (vA (qn 57 0 2 (LocT.vw (d1 r) (by first|(dsimp only;omega)|omega)) rfl rfl rfl rfl) trivial))) rfl fun _=>?_
  refine aE (bd a0 rfl) rfl rfl ?_;rintro _ hE _ ⟨ch,rfl,(fd:HS _ _ _ [_,_,[(ch,.cells [(.bool false),(iI 0)] none false)]] _),_⟩;refine aJ (aF (q:=2) fd rfl rfl rfl rfl rfl rfl rfl rfl rfl) rfl ?_;rintro _ hF _ ⟨(T:HS _ _ _ [_,_,[(ch,.cells [(.bool (a.locs.getD r default).inS),(iI (a.locs.getD r default).idx)] none false)]] _),_⟩;refine ae 3 rfl ?_;refine wR 1 [(1,.o (.bool (a.locs.getD r default).inS)),(4,.o (iI (a.locs.getD r default).idx)),(6,.o (iI c.params)),(10,.o (iI (a.locs.getD r default).idx)),(12,.o (iI a.slots)),(18,.o (.bool (a.locs.getD r default).inS)),(22,.o (iI (a.locs.getD r default).idx)),(26,.o (iI (a.locs.getD r default).idx)),(32,.o (.bool (ft a2 (r:Int))))] 60 95 [] [(95,(.bool (((a.locs.getD r default).inS&&((decide ((a.locs.getD r default).idx<c.params))||(decide (a.slots<=(a.locs.getD r default).idx))))||((!(a.locs.getD r default).inS)&&(((decide ((a.locs.getD r default).idx<0))||(decide ((5:Int)<=(a.locs.getD r default).idx)))||ft a2 (r:Int))))))] (vA (ql 4 0 (HS.hc T (i:=2) rfl) rfl rfl) (vA (fun(g1:(a.locs.getD r default).inS=true)=>(ql 3 1 (HS.hc T (i:=2) rfl) rfl rfl)) (vA (fun(g1:(a.locs.getD r default).inS=true)=>(ql 3 0 (HS.hc T (i:=0) rfl) rfl rfl)) (vA (fun(g1:(decide ((a.locs.getD r default).idx<c.params))=false) (g2:(a.locs.getD r default).inS=true)=>(ql 3 1 (HS.hc T (i:=2) rfl) rfl rfl)) (vA (fun(g1:(decide ((a.locs.getD r default).idx<c.params))=false) (g2:(a.locs.getD r default).inS=true)=>(ql 3 2 (HS.hc T (i:=1) rfl) rfl rfl)) (vA (fun(g1:((a.locs.getD r default).inS&&((decide ((a.locs.getD r default).idx<c.params))||(decide (a.slots<=(a.locs.getD r default).idx))))=false)=>(ql 4 0 (HS.hc T (i:=2) rfl) rfl rfl)) (vA (fun(g1:(!(a.locs.getD r default).inS)=true) (g2:((a.locs.getD r default).inS&&((decide ((a.locs.getD r default).idx<c.params))||(decide (a.slots<=(a.locs.getD r default).idx))))=false)=>(ql 3 1 (HS.hc T (i:=2) rfl) rfl rfl)) (vA (fun(g1:(decide ((a.locs.getD r default).idx<0))=false) (g2:(!(a.locs.getD r default).inS)=true) (g3:((a.locs.getD r default).inS&&((decide ((a.locs.getD r default).idx<c.params))||(decide (a.slots<=(a.locs.getD r default).idx))))=false)=>(ql 3 1 (HS.hc T (i:=2) rfl) rfl rfl)) (vA (fun(g1:((decide ((a.locs.getD r default).idx<0))||(decide ((5:Int)<=(a.locs.getD r default).idx)))=false) (g2:(!(a.locs.getD r default).inS)=true) (g3:((a.locs.getD r default).inS&&((decide ((a.locs.getD r default).idx<c.params))||(decide (a.slots<=(a.locs.getD r default).idx))))=false)=>(m6.dC ex a2 (r:Int) (HS.call T) bl (by(try simp only[BS]at g1 g2 g3);(first|(dsimp only;omega)|omega)) hT (by(try simp only[BS]at g1 g2 g3);(first|(dsimp only;omega)|omega)))) trivial))))))))) rfl fun _=>?_
  refine ap 1 2 (v:=(((a.locs.getD r default).inS&&((decide ((a.locs.getD r default).idx<c.params))||(decide (a.slots<=(a.locs.getD r default).idx))))||((!(a.locs.getD r default).inS)&&(((decide ((a.locs.getD r default).idx<0))||(decide ((5:Int)<=(a.locs.getD r default).idx)))||ft a2 (r:Int))))) rfl rfl rfl rfl (fun a4=>?_) (fun a4=>?_)
  ·have c5:=a4;try simp only[BS]at c5
   have hbad: ¬SndP c a:=rok_no hacl (by omega) a4;refine wT 1 [] 4 4 [] [(4,(.bool false))] rfl fun _=>?_
   refine am ⟨.inr rfl,_,rfl,false,_,(fT (fT (fT (fT (a1) ar) ax) ay) ag),(HS.forget T),rfl,(by first|exact⟨fun h=>(by cases h),fun h=>absurd h hbad⟩|exact⟨fun _=>hfin,fun _=>rfl⟩)⟩
  have c5:=a4;try simp only[BS]at c5
  have hokk:=rok_yes (c:=c) (a:=a) hacl a4;refine wT 2 [] 1 0 [11] [(11,(iI 0))] rfl fun _=>?_
  refine ak (fun(mm:Nat) f H'=> ∃(j:Nat) (F':Fz),Fz.le f5 F'/\HS (Base.of H []) F' H' [e2,e3,[(ch,.cells [(.bool (a.locs.getD r default).inS),(iI (a.locs.getD r default).idx)] none false)]] R/\aD f [(2,(.pointer (some ⟨b1,0,none⟩))),(3,(.pointer (some ⟨b3,0,none⟩))),(7,(.slice b2 A.length b9)),(8,(.slice b4 a2.length cc)),(9,(iI (r:Int))),(10,(.pointer (some ⟨ch,0,none⟩))),(11,(iI (j:Int)))]/\mm=((A).getD r default).length-j/\(j<=((A).getD r default).length)/\(∀p,p<j->cJ a r≠cJ a (((A).getD r default).getD p 0).toNat)) _ ⟨0,_,fR,T,(agC rfl (agC rfl (agC rfl (agC rfl (agC rfl (agC rfl (agC rfl agN))))))),rfl,(by first|assumption|omega|(simp at*;omega)),(by exact fun q h=>absurd h (a0D _))⟩ ?_;rintro hu hI hG ⟨j,hB,a6,E,ds,rfl,hj,hdj⟩ f0;refine au _ ds (fun _=>?_);clear ds;replace J:=J.mono a6;replace U:=U.mono a6;refine aj 2 rfl ?_;obtain⟨dd,d2⟩:=Sv.view (SR.sv U E);have hQ:=fL (d2 r);refine wR 1 [(4,.o (.slice (cA (dd r) 0) (A.getD r default).length (cK (dd r) 0)))] 96 102 [] [(102,(.bool (decide ((j:Int)<((A.getD r default).length:Int)))))] (vA (Sv.ix (j:=(r:Int)) (SR.sv U E) (by first|(dsimp only;omega)|omega) (by first|(dsimp only;omega)|omega)) (vA (ql 25 0 (vL (d2 r) (by first|(dsimp only;omega)|omega)) rfl rfl) trivial)) rfl fun _=>?_
  refine ap 4 5 (v:=(decide ((j:Int)<((A.getD r default).length:Int)))) rfl rfl rfl rfl (fun b7=>?_) (fun b7=>?_)
  ·have c6:=b7;try simp only[BS]at c6
   have hyl:=e7 hrn (k:=j) (by omega);have hsy:=lst_at hrow (p:=j) (by omega);obtain⟨dk,d3⟩:=Sv.view (SR.sv U E);have e1:=fL (d3 r);obtain⟨g8,d4⟩:=Sv.view (SR.sv e1 E);have hK:=fI (d4 j);obtain⟨g9,ea⟩:=Sv.view (SR.sv J E);have go:=LocT.fx (ea ((A.getD r default).getD j 0).toNat);refine wRD 1 [(1,.o (.slice an a.locs.length av)),(5,.o (.slice (cA (dk r) 0) (A.getD r default).length (cK (dk r) 0))),(8,.o (iI ((A.getD r default).getD j 0))),(10,.o (.agg ⟨[(.bool (a.locs.getD ((A.getD r default).getD j 0).toNat default).inS),(iI (a.locs.getD ((A.getD r default).getD j 0).toNat default).idx)]⟩)),(11,.o em),(12,.o (.bool (((a.locs.getD ((A.getD r default).getD j 0).toNat default).inS==(a.locs.getD r default).inS)&&(((a.locs.getD ((A.getD r default).getD j 0).toNat default).idx==(a.locs.getD r default).idx)&&true))))] 105 117 [] [(117,(.bool (((a.locs.getD ((A.getD r default).getD j 0).toNat default).inS==(a.locs.getD r default).inS)&&(((a.locs.getD ((A.getD r default).getD j 0).toNat default).idx==(a.locs.getD r default).idx)&&true))))] (vA (ql 37 0 (hc0 (HS.hc E (i:=1) rfl)) rfl rfl) (vA (Sv.ix (j:=(r:Int)) (SR.sv U E) (by first|(dsimp only;omega)|omega) (by first|(dsimp only;omega)|omega)) (vA (ql 25 0 (hc0 (vL (d3 r) (by first|(dsimp only;omega)|omega))) rfl rfl) (vA (Sv.ix (j:=(j:Int)) (SR.sv e1 E) (by first|(dsimp only;omega)|omega) (by first|(dsimp only;omega)|omega)) (vA (ql 3 0 (hc0 (vI (d4 j) (by first|(dsimp only;omega)|omega))) rfl rfl) (vA (Sv.ix (j:=((A.getD r default).getD j 0)) (SR.sv J E) (by first|(dsimp only;omega)|omega) (by first|(dsimp only;omega)|omega)) (vA (qn 57 0 2 (hc0 (LocT.vw (ea ((A.getD r default).getD j 0).toNat) (by first|(dsimp only;omega)|omega))) rfl rfl rfl rfl) (vA (qn 57 0 2 (hc0 (HS.hc E (i:=2) rfl)) rfl rfl rfl rfl) (vA (agEq (P:=Tryd.prog) (t:=57) (xs:=[(.bool (a.locs.getD ((A.getD r default).getD j 0).toNat default).inS),(iI (a.locs.getD ((A.getD r default).getD j 0).toNat default).idx)]) (ys:=[(.bool (a.locs.getD r default).inS),(iI (a.locs.getD r default).idx)]) (bs:=[((a.locs.getD ((A.getD r default).getD j 0).toNat default).inS==(a.locs.getD r default).inS),((a.locs.getD ((A.getD r default).getD j 0).toNat default).idx==(a.locs.getD r default).idx)]) rfl rfl rfl (by kernel_rfl) (by kernel_rfl) (.cons ⟨by decide,_,_,rfl,rfl,eqB rfl⟩ (.cons ⟨by decide,_,_,rfl,rfl,eqI rfl⟩ .nil))) trivial))))))))) rfl rfl fun _=>?_
   refine ap 1 2 (v:=(((a.locs.getD ((A.getD r default).getD j 0).toNat default).inS==(a.locs.getD r default).inS)&&(((a.locs.getD ((A.getD r default).getD j 0).toNat default).idx==(a.locs.getD r default).idx)&&true))) rfl rfl rfl rfl (fun a5=>?_) (fun a5=>?_)
   ·have c7:=a5;try simp only[BS]at c7
    have heq:cJ a (((A).getD r default).getD j 0).toNat=cJ a r:=loc_eq a5;have hbad: ¬SndP c a:=fun h=>h.dis r _ (by omega) hsy heq.symm
    refine wT 1 [] 4 4 [] [(4,(.bool false))] rfl fun _=>?_
    refine am ⟨.inr rfl,_,rfl,false,_,(fT (fT (fT (fT (fT (a1) ar) ax) ay) ag) a6),(HS.forget E),rfl,(by first|exact⟨fun h=>(by cases h),fun h=>absurd h hbad⟩|exact⟨fun _=>hfin,fun _=>rfl⟩)⟩
   have c7:=a5;try simp only[BS]at c7
   have hnn:cJ a r≠cJ a (((A).getD r default).getD j 0).toNat:=fun e=>loc_nq a5 e.symm
   refine wU 1 [] 103 104 [11] [(11,(iI ((j:Int)+1)))] (vi (n:=(j:Int)+1) (by first|(dsimp only;omega)|omega)) rfl fun _=>?_
   refine f0 _ _ _ ?_ ⟨j+1,_,(a6),E,(agC rfl (agC rfl (agC rfl (agC rfl (agC rfl (agC rfl (agC rfl agN))))))),rfl,(by first|assumption|omega|(simp at*;omega)),(by exact cz hdj hnn)⟩;omega
  have c6:=b7;try simp only[BS]at c6
  refine wU 1 [] 53 54 [9] [(9,(iI ((r:Int)+1)))] (vi (n:=(r:Int)+1) (by first|(dsimp only;omega)|omega)) rfl fun _=>?_
  refine fi _ _ _ ?_ ⟨r+1,_,(fT (ag) a6),(HS.sub E (a03 _ _)),(agC rfl (agC rfl (agC rfl (agC rfl (agC rfl agN))))),rfl,(by first|assumption|omega|(simp at*;omega)),(by exact cz hok hokk.1),(by exact cz dl hokk.2),(by exact cz hdi (snd_row hrow (by omega) hdj))⟩;omega
 have c4:=b6;try simp only[BS]at c4
 have hfin:SndP c a:=⟨hv,hlen,hlo,hhi,hz,fun q hq=>hok q (by omega),fun q y hq=>hdi q (by omega) y,fun q hq=>dl q (by(have h2:=ack_lt vF (a09 _) hq;omega)) hq⟩
 refine wT 1 [] 4 4 [] [(4,(.bool true))] rfl fun _=>?_
 refine am ⟨.inr rfl,_,rfl,true,_,(fT (fT (fT (fT (a1) ar) ax) ay) ag),(HS.forget a0),rfl,(by first|exact⟨fun h=>(by cases h),fun h=>absurd h hbad⟩|exact⟨fun _=>hfin,fun _=>rfl⟩)⟩
end Go.Proofs.YtknafdcgpaejlaaDoor.nv
