/-
 Soundness of an allocation, the program and the reference, by symbolic runs. No condition but bounds on lengths.
-/
import Derived.Test.YtknafdcgpaejlaaDoorZLNI
noncomputable section
namespace Go.Proofs.YtknafdcgpaejlaaDoor.nv
open Go.R
set_option maxRecDepth 10000
set_option linter.unusedVariables false
set_option linter.unusedSimpArgs false
variable (ex:FuncId) {F:Fz} {H:Heap} {R:List Fp}
structure LocT where
 inS:Bool
 idx:Int
 deriving Inhabited,DecidableEq
instance :Rp LocT where
 sz:=2
 rep F cs x:=cs=[.bool x.inS,.int .i64 x.idx]/\in64 x.idx
 len:=by rintro F cs x ⟨rfl,_⟩;rfl
 one:=by rintro F cs x ⟨rfl,_⟩;rfl
 mono:=by intro F F' cs x _ h;exact h
theorem LocT.vw{F:Fz}{get:Nat->Option AObj}{v:Value}{cf:Nat->List Value}{j:Nat}{l:List LocT}(h:VW F get v l cf j)(hj:j<l.length):HC get (sB v) (sO v+j*Rp.sz LocT) [.bool (l.getD j default).inS,.int .i64 (l.getD j default).idx]:=by obtain⟨⟨E,_⟩,A⟩:=h.1 default hj;rw[show cf j=_ from E]at A;exact A
theorem LocT.fx{F:Fz}{get:Nat->Option AObj}{v:Value}{cf:Nat->List Value}{j:Nat}{l:List LocT}(h:VW F get v l cf j):in64 (l.getD j default).idx:=by
 rcases a0i j l.length with hj|hj
 ·obtain⟨⟨E,A⟩,_⟩:=h.1 default hj;exact A
 rw[da hj];decide
structure SpiT where
 reg:Int
 why:Int
 blk:Int
 idx:Int
 oth:(List Int)
 deriving Inhabited,DecidableEq
instance :Rp SpiT where
 sz:=5
 rep F cs x:= ∃a4 k4,cs=[.int .i64 x.reg,.int .i64 x.why,.int .i64 x.blk,.int .i64 x.idx,.slice a4 x.oth.length k4]/\in64 x.reg/\in64 x.why/\in64 x.blk/\in64 x.idx/\SR F (.slice a4 x.oth.length k4) x.oth
 len:=by rintro F cs x ⟨a4,k4,rfl,_⟩;rfl
 one:=by rintro F cs x ⟨a4,k4,rfl,_⟩;rfl
 mono:=by rintro F F' cs x hF ⟨a4,k4,rfl,h0,h1,h2,h3,h4⟩;exact⟨a4,k4,rfl,h0,h1,h2,h3,h4.mono hF⟩
structure AllT where
 locs:(List LocT)
 spi:(List SpiT)
 slots:Int
 deriving Inhabited,DecidableEq
instance :Rp AllT where
 sz:=3
 rep F cs x:= ∃a0 k0 a1 k1,cs=[.slice a0 x.locs.length k0,.slice a1 x.spi.length k1,.int .i64 x.slots]/\in64 x.slots/\SR F (.slice a0 x.locs.length k0) x.locs/\SR F (.slice a1 x.spi.length k1) x.spi
 len:=by rintro F cs x ⟨a0,k0,a1,k1,rfl,_⟩;rfl
 one:=by rintro F cs x ⟨a0,k0,a1,k1,rfl,_⟩;rfl
 mono:=by rintro F F' cs x hF ⟨a0,k0,a1,k1,rfl,h0,h1,h2⟩;exact⟨a0,k0,a1,k1,rfl,h0,h1.mono hF,h2.mono hF⟩
open m1 m2 m3 m4 m5 m6 ma ml mb mc md mf mg mh mi mj na nb nc ni
theorem gT{c:VFnT}{l:List Int}{S:Nat->Prop}(h:Lst l S)(hs: ∀r,S r->(r:Int)<c.regs): ∀x∈l,0<=x/\x<c.regs:=fun x hx=>by obtain⟨E,A⟩:=(h.mem x).1 hx;have:=hs _ A;omega
theorem lst_some{l:List Int}{S:Nat->Prop}(h:Lst l S)(hl:0<l.length): ∃r,S r:=by
 cases l with
 |nil=>exact absurd hl (Nat.lt_irrefl _)
 |cons x l=>exact⟨_,((h.mem x).1 (a0z ..)).2⟩
theorem inte_lt{c:VFnT}(v:VF c){a x:Nat}(h:jJ c a x):(a:Int)<c.regs/\(x:Int)<c.regs:=by obtain⟨b,i,A,E,J,N,_⟩:=h;exact⟨((bE (v.ins b A i E)).2.1 _ J).2,gr v A N⟩
theorem jS{c:VFnT}(v:VF c){r y:Nat}(h:Sy (jJ c) r y):(y:Int)<c.regs:=h.elim (fun h=>(inte_lt v h).2) fun h=>(inte_lt v h).1
theorem in_some{c:VFnT}{x:List (List Int)}(h:Lst (x.getD 0 default) (LIn c 0))(hb:0<c.blocks.length)(hl:0<(x.getD 0 default).length): ∃r,ptS c 0 0 r:=by obtain⟨r,hr⟩:=lst_some h hl;exact⟨r,(pt_in hb _).2 hr⟩
theorem in_none{c:VFnT}{x:List (List Int)}(h:Lst (x.getD 0 default) (LIn c 0))(hb:0<c.blocks.length)(hl: ¬0<(x.getD 0 default).length): ∀r,¬ptS c 0 0 r:=fun r hr=>by have:=(pt_in hb _).1 hr;have A:=List.length_pos_of_mem ((h.mem (r:Int)).2 ⟨by omega,by rw[show((r:Nat):Int).toNat=r by omega];exact this⟩);omega
def okL(c:VFnT)(a:AllT)(x:LocT):Prop:=(x.inS=true->c.params<=x.idx/\x.idx<a.slots)/\(x.inS=false->0<=x.idx/\x.idx<5)
def iO(a:AllT)(r:Nat):LocT:=a.locs.getD r default
structure SndP(c:VFnT)(a:AllT):Prop where
 val:b8 c=true
 len:(a.locs.length:Int)=c.regs
 lo:c.params<=a.slots
 hi:a.slots<=3000
 z: ∀r,¬ptS c 0 0 r
 loc: ∀q,q<a.locs.length->okL c a (iO a q)
 dis: ∀q y,q<a.locs.length->Sy (jJ c) q y->iO a q≠iO a y
 acr: ∀r,acS c r->(iO a r).inS=true
theorem gk{P:Nat->Prop}{k:Nat}(h: ∀q,q<k->P q)(hk:P k): ∀q,q<k+1->P q:=fun q hq=>by
 rcases Nat.lt_or_eq_of_le (Nat.le_of_lt_succ hq) with A|rfl
 ·exact h q A
 exact hk
theorem snd_row{c:VFnT}{a:AllT}{row:List Int}{r n:Nat}(hl:Lst row (Sy (jJ c) r))(hn:row.length<=n)(h: ∀p,p<n->iO a r≠iO a (row.getD p 0).toNat): ∀y,Sy (jJ c) r y->iO a r≠iO a y:=fun y hy=>by have hm:=(hl.mem (y:Int)).2 ⟨by omega,by rw[show((y:Nat):Int).toNat=y by omega];exact hy⟩;obtain⟨p,hp,e⟩:=List.getElem_of_mem hm;have:=h p (by omega);rw[a02,a04 hp,a0I,e]at this;rwa [show((y:Nat):Int).toNat=y by omega]at this
theorem snd_acr{c:VFnT}{a:AllT}{l:List Int}{n:Nat}(hl:Lst l (acS c))(hn:l.length<=n)(h: ∀p,p<n->(iO a (l.getD p 0).toNat).inS=true): ∀r,acS c r->(iO a r).inS=true:=fun y hy=>by have hm:=(hl.mem (y:Int)).2 ⟨by omega,by rw[show((y:Nat):Int).toNat=y by omega];exact hy⟩;obtain⟨p,hp,e⟩:=List.getElem_of_mem hm;have:=h p (by omega);rw[a02,a04 hp,a0I,e]at this;rwa [show((y:Nat):Int).toNat=y by omega]at this
theorem snd_no0{c:VFnT}{a:AllT}(h:((((!(b8 c))||((a.locs.length:Int) !=c.regs))||(decide (a.slots<c.params)))||(decide ((3000:Int)<a.slots)))=true): ¬SndP c a:=fun s=>by have A:=s.val;have E:=s.len;have J:=s.lo;have N:=s.hi;rw[A,E,decide_eq_false (by omega),decide_eq_false (by omega)]at h;simp at h
theorem snd_yes0{c:VFnT}{a:AllT}(h:((((!(b8 c))||((a.locs.length:Int) !=c.regs))||(decide (a.slots<c.params)))||(decide ((3000:Int)<a.slots)))=false):b8 c=true/\(a.locs.length:Int)=c.regs/\c.params<=a.slots/\a.slots<=3000:=by simp only[a1B,decide_eq_false_iff_not,Bool.not_eq_false',bne_eq_false_iff_eq]at h;exact⟨h.1.1.1,h.1.1.2,by omega,by omega⟩
theorem ok_no{c:VFnT}{a:AllT}{x:LocT}{lo hi:Int}(hl:(x.inS=true/\lo=c.params/\hi=a.slots)\/(x.inS=false/\lo=0/\hi=5))(hb:((decide (x.idx<lo))||(decide (hi<=x.idx)))=true): ¬okL c a x:=fun h=>by
 rw[a0D,decide_eq_true_eq,decide_eq_true_eq]at hb;rcases hl with⟨e,rfl,rfl⟩|⟨e,rfl,rfl⟩
 ·have:=h.1 e;omega
 have:=h.2 e;omega
theorem ok_yes{c:VFnT}{a:AllT}{x:LocT}{lo hi:Int}(hl:(x.inS=true/\lo=c.params/\hi=a.slots)\/(x.inS=false/\lo=0/\hi=5))(hb:((decide (x.idx<lo))||(decide (hi<=x.idx)))=false):okL c a x:=by
 rw[a1B,decide_eq_false_iff_not,decide_eq_false_iff_not]at hb;rcases hl with⟨e,rfl,rfl⟩|⟨e,rfl,rfl⟩
 ·exact⟨fun _=>by omega,fun h=>by rw[e]at h;cases h⟩
 exact⟨(fun h=>by rw[e]at h;cases h),fun _=>by omega⟩
theorem loc_eq{x y:LocT}(h:(x.inS==y.inS&&(x.idx==y.idx&&true))=true):x=y:=by obtain⟨a,i⟩:=x;obtain⟨b,j⟩:=y;simp at h;obtain⟨rfl,rfl⟩:=h;rfl
theorem loc_nq{x y:LocT}(h:(x.inS==y.inS&&(x.idx==y.idx&&true))=false):x≠y:=fun e=>by subst e;simp at h
theorem lst_at{S:Nat->Prop}{l:List Int}{p:Nat}(hl:Lst l S)(hp:p<l.length):S (l.getD p 0).toNat:=((hl.mem _).1 (gv hp)).2
set_option maxHeartbeats 2000000 in
theorem sound_c{a4:Option Addr}{bb:Nat}(c:VFnT){bz:Option Addr}{b4:Nat}{N:Option Addr}{U:Nat}(a:AllT)(hs:HS (.of H []) F H [] R)(hY:in64 c.params)(h0:in64 c.regs)(T:SR F (.slice a4 c.blocks.length bb) c.blocks)(E:SR F (.slice N a.locs.length U) a.locs)(hW:SR F (.slice bz a.spi.length b4) a.spi)(hX:in64 a.slots)(hT:TB 37 tabC F)(hins: ∀j,(c.blocks.getD j default).ins.length<=1073741822):kKt ex 35 [(.agg ⟨[(iI c.params),(iI c.regs),(.slice a4 c.blocks.length bb)]⟩),(.agg ⟨[(.slice N a.locs.length U),(.slice bz a.spi.length b4),(iI a.slots)]⟩)] H fun v H'=> ∃(o:Bool) (F':Fz),Fz.le F F'/\HS (.of H []) F' H' [] R/\v= .bool o/\(o=true↔SndP c a):=by
 refine aH Tryd.func35 rfl rfl ?_;refine aj 1 rfl ?_;refine aa ?_;refine aI (bg hs rfl rfl) rfl rfl ?_;rintro _ H2 _ ⟨b1,rfl,(hm:HS _ _ _ [[(b1,.cells [(iI c.params),(iI c.regs),(.slice a4 c.blocks.length bb)] none false)]] _),_⟩;refine aI (bg hm rfl rfl) rfl rfl ?_;rintro _ H4 _ ⟨b3,rfl,(fi:HS _ _ _ [_,[(b3,.cells [(.slice N a.locs.length U),(.slice bz a.spi.length b4),(iI a.slots)] none false)]] _),_⟩;refine wa (.bool false) rfl rfl rfl ?_;refine ae 3 rfl ?_;refine aa ?_;let a1:Value:=(.agg ⟨[(iI c.params),(iI c.regs),(.slice a4 c.blocks.length bb)]⟩)
 refine wUo 1 0 [(0,.o a1)] 17 17 [] [(17,a1)] (qn 24 0 3 (HS.hc fi (i:=0) rfl) rfl rfl rfl rfl) rfl fun _=>?_
 refine aA (am rfl rfl rfl) rfl rfl (m3.kC ex c (HS.call fi) (by first|(dsimp only;omega)|omega) (by first|(dsimp only;omega)|omega) T hT (by exact fun j=>a0e (hins j) (by omega))) ?_;rintro _ H6 ⟨r6,F6,aw,an,rfl,rfl⟩;replace an:HS _ _ _ [_,_] _:=HS.back fi rfl an;replace hT:=hT.mono aw;replace E:=E.mono aw;replace T:=T.mono aw;refine wRo 21 2 [(5,.o (.slice N a.locs.length U)),(8,.o (iI c.regs)),(13,.o (iI a.slots)),(15,.o (iI c.params)),(20,.o (iI a.slots))] 19 39 [] [(39,(.bool ((((!(b8 c))||((a.locs.length:Int) !=c.regs))||(decide (a.slots<c.params)))||(decide ((3000:Int)<a.slots)))))] (vA (fun(g1:(!(b8 c))=false)=>(ql 37 0 (HS.hc an (i:=1) rfl) rfl rfl)) (vA (fun(g1:(!(b8 c))=false)=>(ql 3 1 (HS.hc an (i:=0) rfl) rfl rfl)) (vA (fun(g1:((!(b8 c))||((a.locs.length:Int) !=c.regs))=false)=>(ql 3 2 (HS.hc an (i:=1) rfl) rfl rfl)) (vA (fun(g1:((!(b8 c))||((a.locs.length:Int) !=c.regs))=false)=>(ql 3 0 (HS.hc an (i:=0) rfl) rfl rfl)) (vA (fun(g1:(((!(b8 c))||((a.locs.length:Int) !=c.regs))||(decide (a.slots<c.params)))=false)=>(ql 3 2 (HS.hc an (i:=1) rfl) rfl rfl)) trivial))))) rfl fun _=>?_
 refine ae 1 rfl ?_;refine az 1 3 (v:=((((!(b8 c))||((a.locs.length:Int) !=c.regs))||(decide (a.slots<c.params)))||(decide ((3000:Int)<a.slots)))) rfl rfl rfl rfl (fun b6=>?_) (fun b6=>?_)
 ·have c8:=b6;try simp only[BS]at c8
  have hbad: ¬SndP c a:=snd_no0 b6;refine wT 1 [] 4 4 [] [(4,(.bool false))] rfl fun _=>?_
  refine aq ⟨.inr rfl,_,rfl,false,_,(aw),(HS.forget an),rfl,(by first|exact⟨fun h=>(by cases h),fun h=>absurd h hbad⟩|exact⟨fun _=>hfin,fun _=>rfl⟩)⟩
 have c8:=b6;try simp only[BS]at c8
 have hyy:=snd_yes0 b6;have hv:=hyy.1;have hlen:=hyy.2.1;have hlo:=hyy.2.2.1;have hhi:=hyy.2.2.2;have vF:=fE hv;have hnb:=vF.nb;have hrg:=vF.regs;have hpr:=vF.params;refine aa ?_;refine wUo 1 0 [(0,.o a1)] 41 41 [] [(41,a1)] (qn 24 0 3 (HS.hc an (i:=0) rfl) rfl rfl rfl rfl) rfl fun _=>?_
 refine aA (am rfl rfl rfl) rfl rfl (md.blocks_c ex c (HS.call an) (by first|(dsimp only;omega)|omega) (by first|(dsimp only;omega)|omega) T hT (by exact fun j=>a0e (hins j) (by omega))) ?_;rintro _ ih ⟨g3,hb,bl,hB,h3,kk,he,ad,av,rfl,dk,hA,hQ,hH⟩;replace av:HS _ _ _ [_,_] _:=HS.back an rfl av;replace hT:=hT.mono ad;replace E:=E.mono ad;replace T:=T.mono ad;refine wTo 5 2 [] 43 44 [5,6,40] [(5,(.slice g3 bl.length hb))] rfl fun _=>?_
 refine ae 2 rfl ?_;have bk:BkF c bl _:=(by assumption:b8 c=true->BkF c bl _) hv;have hlx:=bk.lx;have f8:Lst ((bl).getD 0 default) (LIn c 0):=bk.hx 0 (by omega);obtain⟨ez,f0⟩:=Sv.view (SR.sv dk av);have ki:=fL (f0 0);refine wR 1 [(2,.o (.slice (cA (ez 0) 0) (bl.getD 0 default).length (cK (ez 0) 0)))] 45 49 [] [(49,(.bool (decide ((0:Int)<((bl.getD 0 default).length:Int)))))] (vA (Sv.ix (j:=0) (SR.sv dk av) (by decide) (by first|(dsimp only;omega)|omega)) (vA (ql 25 0 (vL (f0 0) (by first|(dsimp only;omega)|omega)) rfl rfl) trivial)) rfl fun _=>?_
 refine az 1 3 (v:=(decide ((0:Int)<((bl.getD 0 default).length:Int)))) rfl rfl rfl rfl (fun ch=>?_) (fun ch=>?_)
 ·have dt:=ch;try simp only[BS]at dt
  have hbad: ¬SndP c a:=fun h=>(in_some f8 (by omega) (by omega)).elim fun r hr=>h.z r hr
  refine wT 1 [] 4 4 [] [(4,(.bool false))] rfl fun _=>?_
  refine aq ⟨.inr rfl,_,rfl,false,_,(fT (aw) ad),(HS.forget av),rfl,(by first|exact⟨fun h=>(by cases h),fun h=>absurd h hbad⟩|exact⟨fun _=>hfin,fun _=>rfl⟩)⟩
 have dt:=ch;try simp only[BS]at dt
 have hz: ∀r,¬ptS c 0 0 r:=in_none f8 (by omega) (by omega);refine wU 2 [(1,.o (.slice N a.locs.length U))] 50 53 [] [(51,(.slice N a.locs.length U)),(52,(iI (a.locs.length:Int))),(53,(iI 0))] (ql 37 0 (HS.hc av (i:=1) rfl) rfl rfl) rfl fun _=>?_
 let b7:Fp:=[(b1,.cells [(iI c.params),(iI c.regs),(.slice a4 c.blocks.length bb)] none false)]
 let b9:Fp:=[(b3,.cells [(.slice N a.locs.length U),(.slice bz a.spi.length b4),(iI a.slots)] none false)]
 refine ak (fun(mm:Nat) f H'=> ∃(k:Nat) (F':Fz),Fz.le he F'/\HS (Base.of H []) F' H' [b7,b9] R/\aD f [(2,(.pointer (some ⟨b1,0,none⟩))),(3,(.pointer (some ⟨b3,0,none⟩))),(51,(.slice N a.locs.length U)),(52,(iI (a.locs.length:Int))),(53,(iI (k:Int)))]/\mm=a.locs.length-k/\(k<=a.locs.length)/\(∀q,q<k->okL c a (iO a q))) _ ⟨0,_,fR,av,(agC rfl (agC rfl (agC rfl (agC rfl (agC rfl agN))))),rfl,(by first|assumption|omega|(simp at*;omega)),(by exact fun q h=>absurd h (a0U _))⟩ ?_;rintro h4 jb ik ⟨k,hf,ag,ay,e3,rfl,hk,hok⟩ g6;refine au _ e3 (fun _=>?_);clear e3;replace hT:=hT.mono ag;replace E:=E.mono ag;replace T:=T.mono ag;refine aj 1 rfl ?_;refine wT 2 [] 54 54 [] [(54,(.bool (decide ((k:Int)<(a.locs.length:Int)))))] rfl fun _=>?_
 refine az 4 6 (v:=(decide ((k:Int)<(a.locs.length:Int)))) rfl rfl rfl rfl (fun ci=>?_) (fun ci=>?_)
 ·have dv:=ci;try simp only[BS]at dv
  refine aa ?_;obtain⟨hC,f1⟩:=Sv.view (SR.sv E ay);have hn:=LocT.fx (f1 k);let go:Value:=(.agg ⟨[(.bool (a.locs.getD k default).inS),(iI (a.locs.getD k default).idx)]⟩)
  refine wRo 2 0 [(1,.o go)] 55 56 [] [(56,go)] (vA (Sv.ix (j:=(k:Int)) (SR.sv E ay) (by first|(dsimp only;omega)|omega) (by first|(dsimp only;omega)|omega)) (vA (qn 57 0 2 (LocT.vw (f1 k) (by first|(dsimp only;omega)|omega)) rfl rfl rfl rfl) trivial)) rfl fun _=>?_
  refine aI (bD ay rfl) rfl rfl ?_;rintro _ il _ ⟨dd,rfl,(g5:HS _ _ _ [_,_,[(dd,.cells [(.bool false),(iI 0)] none false)]] _),_⟩;refine aT (aK (q:=2) g5 rfl rfl rfl rfl rfl rfl rfl rfl rfl) rfl ?_;rintro _ it _ ⟨(a9:HS _ _ _ [_,_,[(dd,.cells [(.bool (a.locs.getD k default).inS),(iI (a.locs.getD k default).idx)] none false)]] _),_⟩;refine ae 2 rfl ?_;refine wT 3 [] 1 0 [9,10] [(9,(iI 0)),(10,(iI 5))] rfl fun _=>?_
  refine wU 1 [(1,.o (.bool (a.locs.getD k default).inS))] 57 58 [] [(58,(.bool (a.locs.getD k default).inS))] (ql 4 0 (HS.hc a9 (i:=2) rfl) rfl rfl) rfl fun _=>?_
  refine bW (fun f H'=> ∃(lo:Int) (hi:Int) (F':Fz),Fz.le hf F'/\HS (Base.of H []) F' H' [b7,b9,[(dd,.cells [(.bool (a.locs.getD k default).inS),(iI (a.locs.getD k default).idx)] none false)]] R/\aD f [(2,(.pointer (some ⟨b1,0,none⟩))),(3,(.pointer (some ⟨b3,0,none⟩))),(8,(.pointer (some ⟨dd,0,none⟩))),(9,(iI lo)),(10,(iI hi)),(51,(.slice N a.locs.length U)),(52,(iI (a.locs.length:Int))),(53,(iI (k:Int)))]/\(((a.locs.getD k default).inS=true/\lo=c.params/\hi=a.slots)\/((a.locs.getD k default).inS=false/\lo=0/\hi=5))/\(in64 lo)/\(in64 hi)) (fun f6=>?_) ?_
  ·refine az 0 0 (v:=(a.locs.getD k default).inS) rfl rfl rfl rfl (fun co=>?_) (fun co=>?_)
   ·have d1:=co;try simp only[BS]at d1
    refine wRD 0 [(1,.o (iI c.params)),(3,.o (iI a.slots))] 59 62 [9,10] [(9,(iI c.params)),(10,(iI a.slots))] (vA (ql 3 0 (hc0 (HS.hc a9 (i:=0) rfl)) rfl rfl) (vA (ql 3 2 (hc0 (HS.hc a9 (i:=1) rfl)) rfl rfl) trivial)) rfl rfl fun _=>?_
    exact f6 _ _ ⟨c.params,a.slots,_,fR,a9,(agC rfl (agC rfl (agC rfl (agC rfl (agC rfl (agC rfl (agC rfl (agC rfl agN)))))))),(by first|exact .inl ⟨by assumption,rfl,rfl⟩|exact .inr ⟨by assumption,rfl,rfl⟩|exact .inl ⟨by simp_all,rfl,rfl⟩|exact .inr ⟨by simp_all,rfl,rfl⟩),(by first|assumption|omega|(simp at*;omega)),(by first|assumption|omega|(simp at*;omega))⟩
   have d1:=co;try simp only[BS]at d1
   exact f6 _ _ ⟨0,5,_,fR,a9,(agC rfl (agC rfl (agC rfl (agC rfl (agC rfl (agC rfl (agC rfl (agC rfl agN)))))))),(by first|exact .inl ⟨by assumption,rfl,rfl⟩|exact .inr ⟨by assumption,rfl,rfl⟩|exact .inl ⟨by simp_all,rfl,rfl⟩|exact .inr ⟨by simp_all,rfl,rfl⟩),(by first|assumption|omega|(simp at*;omega)),(by first|assumption|omega|(simp at*;omega))⟩
  skip;rintro jc iv ⟨lo,hi,h8,e1,b0,e4,hlh,rlo,rhi⟩;refine au _ e4 (fun _=>?_);clear e4;refine aj 2 rfl ?_;refine wR 1 [(1,.o (iI (a.locs.getD k default).idx)),(6,.o (iI (a.locs.getD k default).idx))] 63 72 [] [(72,(.bool ((decide ((a.locs.getD k default).idx<lo))||(decide (hi<=(a.locs.getD k default).idx)))))] (vA (ql 3 1 (HS.hc b0 (i:=2) rfl) rfl rfl) (vA (fun(g1:(decide ((a.locs.getD k default).idx<lo))=false)=>(ql 3 1 (HS.hc b0 (i:=2) rfl) rfl rfl)) trivial)) rfl fun _=>?_
  refine az 1 2 (v:=((decide ((a.locs.getD k default).idx<lo))||(decide (hi<=(a.locs.getD k default).idx)))) rfl rfl rfl rfl (fun a5=>?_) (fun a5=>?_)
  ·have d2:=a5;try simp only[BS]at d2
   have hbad: ¬SndP c a:=fun h=>ok_no hlh a5 (h.loc k (by omega))
   refine wT 1 [] 4 4 [] [(4,(.bool false))] rfl fun _=>?_
   refine aq ⟨.inr rfl,_,rfl,false,_,(fT (fT (fT (aw) ad) ag) e1),(HS.forget b0),rfl,(by first|exact⟨fun h=>(by cases h),fun h=>absurd h hbad⟩|exact⟨fun _=>hfin,fun _=>rfl⟩)⟩
  have d2:=a5;try simp only[BS]at d2
  have hokk:okL c a (iO a k):=ok_yes hlh a5;refine wU 1 [] 53 53 [73] [(53,(iI ((k:Int)+1)))] (vi (n:=(k:Int)+1) (by first|(dsimp only;omega)|omega)) rfl fun _=>?_
  refine g6 _ _ _ ?_ ⟨k+1,_,(fT (ag) e1),(HS.sub b0 (a03 _ _)),(agC rfl (agC rfl (agC rfl (agC rfl (agC rfl agN))))),rfl,(by first|assumption|omega|(simp at*;omega)),(by exact gk hok hokk)⟩;omega
 have dv:=ci;try simp only[BS]at dv
 refine aa ?_;refine wUo 1 0 [(0,.o a1)] 74 74 [] [(74,a1)] (qn 24 0 3 (HS.hc ay (i:=0) rfl) rfl rfl rfl rfl) rfl fun _=>?_
 refine aA (am rfl rfl rfl) rfl rfl (nb.inter_c ex c (HS.call ay) (by first|(dsimp only;omega)|omega) (by first|(dsimp only;omega)|omega) T hT (by assumption)) ?_;rintro _ iz ⟨ds,f7,A,hg,ax,c7,rfl,a2,hR,hI⟩;replace c7:HS _ _ _ [_,_] _:=HS.back ay rfl c7;refine wTo 2 2 [] 76 77 [] [(76,(iI (A.length:Int))),(77,(iI 0))] rfl fun _=>?_
 refine ae 2 rfl ?_;refine ak (fun(mm:Nat) f H'=> ∃(r:Nat) (F':Fz),Fz.le hg F'/\HS (Base.of H []) F' H' [b7,b9] R/\aD f [(2,(.pointer (some ⟨b1,0,none⟩))),(3,(.pointer (some ⟨b3,0,none⟩))),(75,(.slice ds A.length f7)),(76,(iI (A.length:Int))),(77,(iI (r:Int)))]/\mm=a.locs.length-r/\(r<=a.locs.length)/\(∀q,q<r->∀y,Sy (jJ c) q y->iO a q≠iO a y)) _ ⟨0,_,fR,c7,(agC rfl (agC rfl (agC rfl (agC rfl (agC rfl agN))))),rfl,(by first|assumption|omega|(simp at*;omega)),(by exact fun q h=>absurd h (a0U _))⟩ ?_;rintro h5 jq i1 ⟨r,hh,al,a0,e5,rfl,hr,hdi⟩ g7;refine au _ e5 (fun _=>?_);clear e5;replace hT:=(hT.mono ax).mono al;replace E:=(E.mono ax).mono al;replace T:=(T.mono ax).mono al;replace a2:=a2.mono al;refine aj 1 rfl ?_;have hif:=(by assumption:b8 c=true->InF c A) hv;have hgl:=hif.len;refine wT 2 [] 78 78 [] [(78,(.bool (decide ((r:Int)<(A.length:Int)))))] rfl fun _=>?_
 refine az 4 6 (v:=(decide ((r:Int)<(A.length:Int)))) rfl rfl rfl rfl (fun c0=>?_) (fun c0=>?_)
 ·have ea:=c0;try simp only[BS]at ea
  have hrow:Lst ((A).getD r default) (Sy (jJ c) r):=hif.row r (by omega);have hrl:=Lst.len hrow hrg.1 (fun y h=>(jS vF h));have hrn:=gT hrow (fun y h=>(jS vF h));obtain⟨Z,f2⟩:=Sv.view (SR.sv a2 a0);have dl:=fL (f2 r);refine wR 2 [(2,.o (.slice (cA (Z r) 0) (A.getD r default).length (cK (Z r) 0)))] 79 81 [11,12] [(11,(iI (r:Int))),(12,(.slice (cA (Z r) 0) (A.getD r default).length (cK (Z r) 0)))] (vA (Sv.ix (j:=(r:Int)) (SR.sv a2 a0) (by first|(dsimp only;omega)|omega) (by first|(dsimp only;omega)|omega)) (vA (ql 25 0 (vL (f2 r) (by first|(dsimp only;omega)|omega)) rfl rfl) trivial)) rfl fun _=>?_
  refine wT 2 [] 82 84 [] [(82,(.slice (cA (Z r) 0) (A.getD r default).length (cK (Z r) 0))),(83,(iI ((A.getD r default).length:Int))),(84,(iI 0))] rfl fun _=>?_
  refine ak (fun(mm:Nat) f H'=> ∃(j:Nat) (F':Fz),Fz.le hh F'/\HS (Base.of H []) F' H' [b7,b9] R/\aD f [(2,(.pointer (some ⟨b1,0,none⟩))),(3,(.pointer (some ⟨b3,0,none⟩))),(11,(iI (r:Int))),(75,(.slice ds A.length f7)),(76,(iI (A.length:Int))),(77,(iI (r:Int))),(82,(.slice (cA (Z r) 0) (A.getD r default).length (cK (Z r) 0))),(83,(iI ((A.getD r default).length:Int))),(84,(iI (j:Int)))]/\mm=((A).getD r default).length-j/\(j<=((A).getD r default).length)/\(∀p,p<j->iO a r≠iO a (((A).getD r default).getD p 0).toNat)) _ ⟨0,_,fR,a0,(agC rfl (agC rfl (agC rfl (agC rfl (agC rfl (agC rfl (agC rfl (agC rfl (agC rfl agN))))))))),rfl,(by first|assumption|omega|(simp at*;omega)),(by exact fun q h=>absurd h (a0U _))⟩ ?_;rintro h6 jw i2 ⟨j,h9,a7,V,e6,rfl,hj,hdj⟩ g8;refine au _ e6 (fun _=>?_);clear e6;replace E:=E.mono a7;replace dl:=dl.mono a7;refine aj 1 rfl ?_;refine wT 2 [] 85 85 [] [(85,(.bool (decide ((j:Int)<((A.getD r default).length:Int)))))] rfl fun _=>?_
  refine az 4 5 (v:=(decide ((j:Int)<((A.getD r default).length:Int)))) rfl rfl rfl rfl (fun c3=>?_) (fun c3=>?_)
  ·have em:=c3;try simp only[BS]at em
   have hyl:=cY hrn (k:=j) (by omega);have hsy:=lst_at hrow (p:=j) (by omega);obtain⟨hD,f3⟩:=Sv.view (SR.sv dl V);have kd:=fI (f3 j);refine wR 2 [(1,.o (iI ((A.getD r default).getD j 0)))] 86 87 [14] [(14,(iI ((A.getD r default).getD j 0)))] (vA (Sv.ix (j:=(j:Int)) (SR.sv dl V) (by first|(dsimp only;omega)|omega) (by first|(dsimp only;omega)|omega)) (vA (ql 3 0 (vI (f3 j) (by first|(dsimp only;omega)|omega)) rfl rfl) trivial)) rfl fun _=>?_
   obtain⟨hE,b2⟩:=Sv.view (SR.sv E V);have ht:=LocT.fx (b2 r);have hu:=LocT.fx (b2 ((A.getD r default).getD j 0).toNat);refine wRD 1 [(1,.o (.slice N a.locs.length U)),(4,.o (.agg ⟨[(.bool (a.locs.getD r default).inS),(iI (a.locs.getD r default).idx)]⟩)),(6,.o (.slice N a.locs.length U)),(9,.o (.agg ⟨[(.bool (a.locs.getD ((A.getD r default).getD j 0).toNat default).inS),(iI (a.locs.getD ((A.getD r default).getD j 0).toNat default).idx)]⟩)),(10,.o (.bool (((a.locs.getD r default).inS==(a.locs.getD ((A.getD r default).getD j 0).toNat default).inS)&&(((a.locs.getD r default).idx==(a.locs.getD ((A.getD r default).getD j 0).toNat default).idx)&&true))))] 88 98 [] [(98,(.bool (((a.locs.getD r default).inS==(a.locs.getD ((A.getD r default).getD j 0).toNat default).inS)&&(((a.locs.getD r default).idx==(a.locs.getD ((A.getD r default).getD j 0).toNat default).idx)&&true))))] (vA (ql 37 0 (hc0 (HS.hc V (i:=1) rfl)) rfl rfl) (vA (Sv.ix (j:=(r:Int)) (SR.sv E V) (by first|(dsimp only;omega)|omega) (by first|(dsimp only;omega)|omega)) (vA (qn 57 0 2 (hc0 (LocT.vw (b2 r) (by first|(dsimp only;omega)|omega))) rfl rfl rfl rfl) (vA (ql 37 0 (hc0 (HS.hc V (i:=1) rfl)) rfl rfl) (vA (Sv.ix (j:=((A.getD r default).getD j 0)) (SR.sv E V) (by first|(dsimp only;omega)|omega) (by first|(dsimp only;omega)|omega)) (vA (qn 57 0 2 (hc0 (LocT.vw (b2 ((A.getD r default).getD j 0).toNat) (by first|(dsimp only;omega)|omega))) rfl rfl rfl rfl) (vA (agEq (P:=Tryd.prog) (t:=57) (xs:=[(.bool (a.locs.getD r default).inS),(iI (a.locs.getD r default).idx)]) (ys:=[(.bool (a.locs.getD ((A.getD r default).getD j 0).toNat default).inS),(iI (a.locs.getD ((A.getD r default).getD j 0).toNat default).idx)]) (bs:=[((a.locs.getD r default).inS==(a.locs.getD ((A.getD r default).getD j 0).toNat default).inS),((a.locs.getD r default).idx==(a.locs.getD ((A.getD r default).getD j 0).toNat default).idx)]) rfl rfl rfl (by kernel_rfl) (by kernel_rfl) (.cons ⟨by decide,_,_,rfl,rfl,eqB rfl⟩ (.cons ⟨by decide,_,_,rfl,rfl,eqI rfl⟩ .nil))) trivial))))))) rfl rfl fun _=>?_
   refine az 1 2 (v:=(((a.locs.getD r default).inS==(a.locs.getD ((A.getD r default).getD j 0).toNat default).inS)&&(((a.locs.getD r default).idx==(a.locs.getD ((A.getD r default).getD j 0).toNat default).idx)&&true))) rfl rfl rfl rfl (fun a6=>?_) (fun a6=>?_)
   ·have es:=a6;try simp only[BS]at es
    have heq:iO a r=iO a (((A).getD r default).getD j 0).toNat:=loc_eq a6;have hbad: ¬SndP c a:=fun h=>h.dis r _ (by omega) hsy heq
    refine wT 1 [] 4 4 [] [(4,(.bool false))] rfl fun _=>?_
    refine aq ⟨.inr rfl,_,rfl,false,_,(fT (fT (fT (fT (fT (aw) ad) ag) ax) al) a7),(HS.forget V),rfl,(by first|exact⟨fun h=>(by cases h),fun h=>absurd h hbad⟩|exact⟨fun _=>hfin,fun _=>rfl⟩)⟩
   have es:=a6;try simp only[BS]at es
   have hnn:iO a r≠iO a (((A).getD r default).getD j 0).toNat:=loc_nq a6;refine wU 1 [] 84 84 [99] [(84,(iI ((j:Int)+1)))] (vi (n:=(j:Int)+1) (by first|(dsimp only;omega)|omega)) rfl fun _=>?_
   refine g8 _ _ _ ?_ ⟨j+1,_,(a7),V,(agC rfl (agC rfl (agC rfl (agC rfl (agC rfl (agC rfl (agC rfl (agC rfl (agC rfl agN))))))))),rfl,(by first|assumption|omega|(simp at*;omega)),(by exact gk hdj hnn)⟩;omega
  have em:=c3;try simp only[BS]at em
  refine wU 1 [] 77 77 [100] [(77,(iI ((r:Int)+1)))] (vi (n:=(r:Int)+1) (by first|(dsimp only;omega)|omega)) rfl fun _=>?_
  refine g7 _ _ _ ?_ ⟨r+1,_,(fT (al) a7),V,(agC rfl (agC rfl (agC rfl (agC rfl (agC rfl agN))))),rfl,(by first|assumption|omega|(simp at*;omega)),(by exact gk hdi (snd_row hrow (by omega) hdj))⟩;omega
 have ea:=c0;try simp only[BS]at ea
 refine aa ?_;refine wUo 1 0 [(0,.o a1)] 101 101 [] [(101,a1)] (qn 24 0 3 (HS.hc a0 (i:=0) rfl) rfl rfl rfl rfl) rfl fun _=>?_
 refine aA (am rfl rfl rfl) rfl rfl (mg.across_c ex c (HS.call a0) (by first|(dsimp only;omega)|omega) (by first|(dsimp only;omega)|omega) T hT (by exact fun j=>a0e (hins j) (by omega))) ?_;rintro _ i3 ⟨g2,ha,J,f9,hl,c6,c9,rfl,a3,hS,hK⟩;replace c9:HS _ _ _ [_,_,f9] _:=HS.back a0 rfl c9;refine wTo 2 2 [] 103 104 [] [(103,(iI (J.length:Int))),(104,(iI 0))] rfl fun _=>?_
 refine ae 2 rfl ?_;refine ak (fun(mm:Nat) f H'=> ∃(p:Nat) (F':Fz),Fz.le hl F'/\HS (Base.of H []) F' H' [b7,b9,f9] R/\aD f [(3,(.pointer (some ⟨b3,0,none⟩))),(102,(.slice g2 J.length ha)),(103,(iI (J.length:Int))),(104,(iI (p:Int)))]/\mm=(J).length-p/\(p<=(J).length)/\(∀q,q<p->(iO a ((J).getD q 0).toNat).inS=true)) _ ⟨0,_,fR,c9,(agC rfl (agC rfl (agC rfl (agC rfl agN)))),rfl,(by first|assumption|omega|(simp at*;omega)),(by exact fun q h=>absurd h (a0U _))⟩ ?_;rintro h7 kc ja ⟨p,ib,a8,ar,fd,rfl,hp,e2⟩ g9;refine au _ fd (fun _=>?_);clear fd;replace E:=(E.mono c6).mono a8;replace a3:=a3.mono a8;refine aj 1 rfl ?_;have hacl:=(by assumption:b8 c=true->Lst J (acS c)) hv;have har:=gT hacl (fun r h=>ack_lt vF (a09 _) h);have hal:=Lst.len hacl hrg.1 (fun r h=>ack_lt vF (a09 _) h);refine wT 2 [] 105 105 [] [(105,(.bool (decide ((p:Int)<(J.length:Int)))))] rfl fun _=>?_
 refine az 4 5 (v:=(decide ((p:Int)<(J.length:Int)))) rfl rfl rfl rfl (fun c4=>?_) (fun c4=>?_)
 ·have et:=c4;try simp only[BS]at et
  have hxp:=cY har (k:=p) (by omega);have hsa:=lst_at hacl (p:=p) (by omega);obtain⟨hF,f4⟩:=Sv.view (OS.sv a3 ar (i:=2) rfl);have kg:=fI (f4 p);refine wR 2 [(1,.o (iI (J.getD p 0)))] 106 107 [16] [(16,(iI (J.getD p 0)))] (vA (Sv.ix (j:=(p:Int)) (OS.sv a3 ar (i:=2) rfl) (by first|(dsimp only;omega)|omega) (by first|(dsimp only;omega)|omega)) (vA (ql 3 0 (vI (f4 p) (by first|(dsimp only;omega)|omega)) rfl rfl) trivial)) rfl fun _=>?_
  obtain⟨hG,f5⟩:=Sv.view (SR.sv E ar);have hw:=LocT.fx (f5 (J.getD p 0).toNat);refine wR 1 [(1,.o (.slice N a.locs.length U)),(5,.o (.bool (a.locs.getD (J.getD p 0).toNat default).inS))] 108 114 [] [(114,(.bool (!(a.locs.getD (J.getD p 0).toNat default).inS)))] (vA (ql 37 0 (HS.hc ar (i:=1) rfl) rfl rfl) (vA (Sv.ix (j:=(J.getD p 0)) (SR.sv E ar) (by first|(dsimp only;omega)|omega) (by first|(dsimp only;omega)|omega)) (vA (ql 4 0 (LocT.vw (f5 (J.getD p 0).toNat) (by first|(dsimp only;omega)|omega)) rfl rfl) trivial))) rfl fun _=>?_
  refine az 1 2 (v:=(!(a.locs.getD (J.getD p 0).toNat default).inS)) rfl rfl rfl rfl (fun c5=>?_) (fun c5=>?_)
  ·have b5:=c5;try simp only[BS]at b5
   have hbad: ¬SndP c a:=fun h=>by have h1:=h.acr _ hsa;have h2:=b5;(unfold iO at h1;simp_all)
   refine wT 1 [] 4 4 [] [(4,(.bool false))] rfl fun _=>?_
   refine aq ⟨.inr rfl,_,rfl,false,_,(fT (fT (fT (fT (fT (fT (aw) ad) ag) ax) al) c6) a8),(HS.forget ar),rfl,(by first|exact⟨fun h=>(by cases h),fun h=>absurd h hbad⟩|exact⟨fun _=>hfin,fun _=>rfl⟩)⟩
  have b5:=c5;try simp only[BS]at b5
  have hnn:(iO a ((J).getD p 0).toNat).inS=true:=by have h2:=b5;(unfold iO;simp_all)
  refine wU 1 [] 104 104 [115] [(104,(iI ((p:Int)+1)))] (vi (n:=(p:Int)+1) (by first|(dsimp only;omega)|omega)) rfl fun _=>?_
  refine g9 _ _ _ ?_ ⟨p+1,_,(a8),ar,(agC rfl (agC rfl (agC rfl (agC rfl agN)))),rfl,(by first|assumption|omega|(simp at*;omega)),(by exact gk e2 hnn)⟩;omega
 have et:=c4;try simp only[BS]at et
 have hfin:SndP c a:=⟨hv,hlen,hlo,hhi,hz,fun q hq=>hok q (by omega),fun q y hq=>hdi q (by omega) y,snd_acr hacl (by omega) e2⟩
 refine wT 1 [] 4 4 [] [(4,(.bool true))] rfl fun _=>?_
 refine aq ⟨.inr rfl,_,rfl,true,_,(fT (fT (fT (fT (fT (fT (aw) ad) ag) ax) al) c6) a8),(HS.forget ar),rfl,(by first|exact⟨fun h=>(by cases h),fun h=>absurd h hbad⟩|exact⟨fun _=>hfin,fun _=>rfl⟩)⟩
end Go.Proofs.YtknafdcgpaejlaaDoor.nv
