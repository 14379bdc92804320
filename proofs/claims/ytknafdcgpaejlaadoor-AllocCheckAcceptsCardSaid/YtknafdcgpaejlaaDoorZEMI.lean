/-
 Live registers: the reference solution of the equations, by a symbolic run. No condition but bounds on lengths.
-/
import Derived.Test.YtknafdcgpaejlaaDoorZEMH
noncomputable section
namespace Go.Proofs.YtknafdcgpaejlaaDoor.mi
open Go.R
set_option maxRecDepth 10000
set_option linter.unusedVariables false
set_option linter.unusedSimpArgs false
variable (ex:FuncId) {F:Fz} {H:Heap} {R:List Fp}
open m1 m2 m3 m4 m5 m6 ma ml mb mc md mf mg mh
abbrev cX(l:List (List Int))(b:Nat):List Int:=l.getD b default
structure RSn(c:VFnT)(I O:List (List Int)):Prop where
 li:I.length=c.blocks.length
 lo:O.length=c.blocks.length
 ai: ∀b,Asc (cX I b)
 ao: ∀b,Asc (cX O b)
 si: ∀b,∀x∈cX I b,0<=x/\LIn c b x.toNat
 so: ∀b,∀x∈cX O b,0<=x/\kW c b x.toNat
 mo: ∀b,b<c.blocks.length->∀r,oS (cX O b) r->outS c (fun t r=>oS (cX I t) r) b r
 mi: ∀b,b<c.blocks.length->∀r,oS (cX I b) r->inS (aU c b) (oS (cX O b)) r
theorem rsn_zero{c:VFnT}{n:Nat}(h:n=c.blocks.length):RSn c (List.replicate n []) (List.replicate n []):=by
 have e: ∀b,cX (List.replicate n ([]:List Int)) b=[]:=fun b=>by unfold cX;rw[a01,a0R];split<;>rfl
 have no: ∀b r,¬oS (cX (List.replicate n ([]:List Int)) b) r:=fun b r h=>by rw[e]at h;cases h
 exact⟨by simp[h],by simp[h],fun b=>by rw[e];exact List.Pairwise.nil,fun b=>by rw[e];exact List.Pairwise.nil,fun b x hx=>by(rw[e]at hx;cases hx),fun b x hx=>by(rw[e]at hx;cases hx),fun b _ r h=>absurd h (no b r),fun b _ r h=>absurd h (no b r)⟩
theorem cI{l:List (List Int)}{b b':Nat}{x:List Int}(hb:b<l.length):cX (l.set b x) b'=if b=b' then x else cX l b':=by
 unfold cX;rw[cd];by_cases h:b=b'
 ·subst h;rw[if_pos ⟨rfl,hb⟩,if_pos rfl]
 rw[if_neg (fun e=>h e.1),if_neg h]
theorem lP: ∀{b a:List Int},Asc a->Asc b->(∀x∈a,x∈b)->a.Sublist b
 | [],[],_,_,_=>List.Sublist.refl _
 | [],x::a,_,_,h=>absurd (h x (a0p ..)) a0e
 |y::b,[],_,_,_=>List.nil_sublist _
 |y::b,x::a,ha,hb,h=>by
  have ha':=a1o.1 ha;have hb':=a1o.1 hb;by_cases e:x=y
  ·subst e;refine List.Sublist.cons_cons _ (lP ha'.2 hb'.2 fun z hz=>?_);rcases a0n.1 (h z (a0g _ hz)) with e|e
   ·subst e;have:=ha'.1 z hz;omega
   exact e
  have hx:x∈b:=by
   rcases a0n.1 (h x (a0p ..)) with e'|e'
   ·exact absurd e' e
   exact e'
  have hyx:=hb'.1 x hx;refine List.Sublist.cons _ (lP ha hb'.2 fun z hz=>?_);rcases a0n.1 (h z hz) with e'|e'
  ·rcases a0n.1 hz with A|A
   ·exact absurd (A.symm.trans e') e
   have:=ha'.1 z A;omega
  exact e'
theorem kT{a b:List Int}(ha:Asc a)(hb:Asc b)(h: ∀x∈a,x∈b)(hl:b.length=a.length):a=b:=(lP ha hb h).eq_of_length hl.symm
theorem j1{a b:List Int}(ha:Asc a)(hb:Asc b)(h: ∀x∈a,x∈b):a.length<=b.length:=(lP ha hb h).length_le
theorem Lst.ext{l:List Int}{S S':Nat->Prop}(h:Lst l S)(hs: ∀r,S r↔S' r):Lst l S':=⟨h.asc,fun x=>by rw[h.mem,hs]⟩
def uS(c:VFnT)(I:List (List Int))(b q r:Nat):Prop:= ∃t∈(bc (aU c b)).take q,oS (cX I t.toNat) r
theorem uS_zero{c:VFnT}{I:List (List Int)}{b:Nat}:Lst [] (uS c I b 0):=Lst.nil fun r ⟨t,h,_⟩=>by simp at h
theorem RSn.lstI{c:VFnT}{I O:List (List Int)}(h:RSn c I O)(b:Nat):Lst (cX I b) (oS (cX I b)):=⟨h.ai b,fun x=>⟨fun hx=>⟨(h.si b x hx).1,by unfold oS;rwa [a14 (h.si b x hx).1]⟩,fun hx=>by have A:=hx.2;unfold oS at A;rwa [a14 hx.1]at A⟩⟩
theorem uS_step{c:VFnT}{I O:List (List Int)}{b q:Nat}{o:List Int}(hs:RSn c I O)(hq:q<(bc (aU c b)).length)(h:Lst o (uS c I b q)):Lst (cL o (cX I ((bc (aU c b)).getD q 0).toNat)) (uS c I b (q+1)):=by
 refine Lst.ext (Lst.union h (hs.lstI _)) fun r=>?_
 unfold uS;rw[bt hq (d:=0)];constructor
 ·rintro(⟨t,A,E⟩|A)
  ·exact⟨t,a08.2 (.inl A),E⟩
  exact⟨_,a08.2 (.inr (a0b.2 rfl)),A⟩
 rintro⟨t,A,E⟩;rcases a08.1 A with A|A
 ·exact .inl ⟨t,A,E⟩
 rw[a0b]at A;subst A;exact .inr E
theorem uS_all{c:VFnT}{I:List (List Int)}{b q r:Nat}(hq:(bc (aU c b)).length<=q):uS c I b q r↔outS c (fun t r=>oS (cX I t) r) b r:=by unfold uS outS;rw[a0h hq]
theorem uS_in{c:VFnT}{I O:List (List Int)}{b q r:Nat}(hs:RSn c I O)(h:uS c I b q r):kW c b r:=by obtain⟨t,A,E⟩:=h;refine⟨t,a1r A,?_⟩;have:=hs.si _ _ E;exact this.2
theorem uS_lt{c:VFnT}(v:VF c){I O:List (List Int)}{b q r:Nat}(hs:RSn c I O)(h:uS c I b q r):(r:Int)<c.regs:=im v (uS_in hs h)
theorem rpo_of{c:VFnT}(v:VF c){I O:List (List Int)}{b q:Nat}{o:List Int}(hs:RSn c I O)(hb:b<c.blocks.length)(hl:(aU c b).ins.length<=1073741824)(ho:Lst o (uS c I b q)):RpO (aU c b) o c.regs:=by
 refine⟨v.regs,hl,fun i hi=>bu (v.ins b hb i hi),fun x hx=>?_,ho.asc,fun x hx=>?_⟩
 ·unfold dC at hx;split at hx
  ·rename_i hf;rw[a0b]at hx;have:=v.fin b hb hf;omega
  cases hx
 have A:=(ho.mem x).1 hx;have E:=uS_lt v hs A.2;omega
theorem rpo_out{c:VFnT}(v:VF c){b:Nat}{o:List Int}(hb:b<c.blocks.length)(hl:(aU c b).ins.length<=1073741824)(ho:Lst o (kW c b)):RpO (aU c b) o c.regs:=by
 refine⟨v.regs,hl,fun i hi=>bu (v.ins b hb i hi),fun x hx=>?_,ho.asc,fun x hx=>?_⟩
 ·unfold dC at hx;split at hx
  ·rename_i hf;rw[a0b]at hx;have:=v.fin b hb hf;omega
  cases hx
 have A:=(ho.mem x).1 hx;have E:=im v A.2;omega
theorem jI{l:List Int}{S:Nat->Prop}(h:Lst l S)(r:Nat):oS l r↔S r:=by unfold oS;rw[h.mem];exact⟨fun h=>by simpa using h.2,fun h=>⟨by omega,by simpa using h⟩⟩
structure Stp(c:VFnT)(I O:List (List Int))(b:Nat)(o i:List Int):Prop where
 lo:Lst o (outS c (fun t r=>oS (cX I t) r) b)
 li:Lst i (inS (aU c b) (oS o))
theorem stp_of{c:VFnT}{I O:List (List Int)}{b q:Nat}{o:List Int}{l:List (List Int)}(hq:(bc (aU c b)).length<=q)(ho:Lst o (uS c I b q))(hl:RpF (aU c b) o l):Stp c I O b o (cX l 0):=
 ⟨Lst.ext ho fun r=>uS_all hq,Lst.ext (hl.pt 0 (a0C _)) fun r=>Iff.rfl⟩
theorem stp_sub{c:VFnT}{I O:List (List Int)}{b:Nat}{o i:List Int}(h:RSn c I O)(hb:b<c.blocks.length)(s:Stp c I O b o i):(∀x∈cX O b,x∈o)/\(∀x∈cX I b,x∈i):=by
 have E: ∀r,oS (cX O b) r->oS o r:=fun r hr=>(jI s.lo r).2 (h.mo b hb r hr)
 refine⟨fun x hx=>?_,fun x hx=>?_⟩
 ·have A:=(h.so b x hx).1;have:=E x.toNat (by unfold oS;rwa [a14 A]);unfold oS at this;rwa [a14 A]at this
 have A:=(h.si b x hx).1;have:=h.mi b hb x.toNat (by unfold oS;rwa [a14 A]);exact(s.li.mem x).2 ⟨A,e7 E _ this⟩
theorem rsn_set{c:VFnT}{I O:List (List Int)}{b:Nat}{o i:List Int}(h:RSn c I O)(hb:b<c.blocks.length)(s:Stp c I O b o i):RSn c (I.set b i) (O.set b o):=by
 obtain⟨so,si⟩:=stp_sub h hb s;have hbi:b<I.length:=by rw[h.li];exact hb
 have hbo:b<O.length:=by rw[h.lo];exact hb
 have mI: ∀t r,oS (cX I t) r->oS (cX (I.set b i) t) r:=fun t r hr=>by
  rw[cI hbi];split
  ·rename_i e;subst e;exact si _ hr
  exact hr
 refine⟨by rw[a0f];exact h.li,by rw[a0f];exact h.lo,fun b'=>?_,fun b'=>?_,fun b' x hx=>?_,fun b' x hx=>?_,fun b' hb' r hr=>?_,fun b' hb' r hr=>?_⟩
 ·rw[cI hbi];split
  ·exact s.li.asc
  exact h.ai b'
 ·rw[cI hbo];split
  ·exact s.lo.asc
  exact h.ao b'
 ·rw[cI hbi]at hx;split at hx
  ·rename_i e;subst e;obtain⟨A,U⟩:=(s.li.mem x).1 hx;refine⟨A,lZ c b hb _ (e7 (fun r hr=>?_) _ U)⟩;obtain⟨t,E,N⟩:=(jI s.lo r).1 hr;have T:=h.si _ _ N;exact⟨t,E,T.2⟩
  exact h.si b' x hx
 ·rw[cI hbo]at hx;split at hx
  ·rename_i e;subst e;obtain⟨A,t,E,N⟩:=(s.lo.mem x).1 hx;have T:=h.si _ _ N;exact⟨A,t,E,T.2⟩
  exact h.so b' x hx
 ·rw[cI hbo]at hr;split at hr
  ·rename_i e;subst e;exact gN (fun t r=>mI t r) _ _ ((jI s.lo r).1 hr)
  exact gN (fun t r=>mI t r) _ _ (h.mo b' hb' r hr)
 rw[cI hbi]at hr;rw[cI hbo];split at hr
 ·rename_i e;subst e;rw[if_pos rfl];exact(jI s.li r).1 hr
 rename_i e;rw[if_neg e];exact h.mi b' hb' r hr
def cntL(I:List (List Int)):Nat:=(I.map List.length).sum
theorem cntL_set{I:List (List Int)}{b:Nat}(hb:b<I.length)(s:List Int):cntL (I.set b s)+(cX I b).length=cntL I+s.length:=by unfold cntL cX;rw[List.map_set];have:=sum_set (I.map List.length) b s.length (by rw[a1B];exact hb);rw[a01,a1g,a04 hb]at this;rw[a01,a04 hb];exact this
theorem cntL_le{l:List (List Int)}{B:Nat}(h: ∀b,(cX l b).length<=B):cntL l<=l.length*B:=by
 unfold cntL;have key: ∀(l:List (List Int)),(∀s∈l,s.length<=B)->(l.map List.length).sum<=l.length*B:=by
  intro l;induction l with
  |nil=>intro _;simp
  |cons s l ih=>
   intro h
   have A:=ih fun x hx=>h x (a0g _ hx)
   have E:=h s (a0p ..)
   rw[List.map_cons,List.sum_cons,a0a,a1l];omega
 refine key l fun s hs=>?_
 obtain⟨b,hb,rfl⟩:=a0A.1 hs;have:=h b;unfold cX at this;rwa [a01,a04 hb]at this
def cnt2(I O:List (List Int)):Nat:=cntL I+cntL O
theorem rsn_len{c:VFnT}(v:VF c){I O:List (List Int)}(h:RSn c I O)(b:Nat):((cX I b).length:Int)<=c.regs/\((cX O b).length:Int)<=c.regs:=by
 have hr:=v.regs;constructor
 ·have:=j2 (m:=c.regs) 0 hr.1 (h.ai b) fun x hx=>by obtain⟨A,E⟩:=h.si b x hx;have:=lin_lt v E;exact⟨A,by omega⟩
  omega
 have:=j2 (m:=c.regs) 0 hr.1 (h.ao b) fun x hx=>by obtain⟨A,E⟩:=h.so b x hx;have:=im v E;exact⟨A,by omega⟩
 omega
theorem cnt2_le{c:VFnT}(v:VF c){I O:List (List Int)}(h:RSn c I O):cnt2 I O<=c.blocks.length*6000:=by
 have hr:=v.regs;have A:=cntL_le (l:=I) (B:=3000) fun b=>by have:=(rsn_len v h b).1;omega
 have E:=cntL_le (l:=O) (B:=3000) fun b=>by have:=(rsn_len v h b).2;omega
 rw[h.li]at A;rw[h.lo]at E;unfold cnt2;omega
def CL(c:VFnT)(I O:List (List Int))(b:Nat):Prop:=(∀r,outS c (fun t r=>oS (cX I t) r) b r->oS (cX O b) r)/\∀r,inS (aU c b) (oS (cX O b)) r->oS (cX I b) r
theorem stp_same{c:VFnT}{I O:List (List Int)}{b:Nat}{o i:List Int}(h:RSn c I O)(hb:b<c.blocks.length)(s:Stp c I O b o i)(N:(o.length:Int)=((cX O b).length:Int))(T:(i.length:Int)=((cX I b).length:Int)):I.set b i=I/\O.set b o=O/\CL c I O b:=by
 obtain⟨so,si⟩:=stp_sub h hb s;have A:=kT (h.ao b) s.lo.asc so (by omega);have E:=kT (h.ai b) s.li.asc si (by omega);refine⟨by rw[←E];exact en _ _,by rw[←A];exact en _ _,fun r hr=>?_,fun r hr=>?_⟩
 ·rw[A];exact(jI s.lo r).2 hr
 rw[A]at hr;rw[E];exact(jI s.li r).2 hr
theorem stp_more{c:VFnT}{I O:List (List Int)}{b:Nat}{o i:List Int}(h:RSn c I O)(hb:b<c.blocks.length)(s:Stp c I O b o i):cnt2 I O<=cnt2 (I.set b i) (O.set b o)/\(((o.length:Int)≠((cX O b).length:Int)\/(i.length:Int)≠((cX I b).length:Int))->cnt2 I O<cnt2 (I.set b i) (O.set b o)):=by obtain⟨so,si⟩:=stp_sub h hb s;have A:=j1 (h.ao b) s.lo.asc so;have E:=j1 (h.ai b) s.li.asc si;have N:=cntL_set (I:=I) (b:=b) (by rw[h.li];exact hb) i;have T:=cntL_set (I:=O) (b:=b) (by rw[h.lo];exact hb) o;unfold cnt2;exact⟨by omega,fun h=>by omega⟩
theorem mv{c:VFnT}{I O A E:List (List Int)}{b:Nat}{o i:List Int}{m2 m':Bool}(h:RSn c I O)(hb:b<c.blocks.length)(s:Stp c I O b o i)(U:m2=false->I=A/\O=E)(V:m2=true->cnt2 A E<cnt2 I O)
  (e:m'=((m2||((o.length:Int) !=((O.getD b default).length:Int)))||((i.length:Int) !=((I.getD b default).length:Int)))):(m'=false->I.set b i=A/\O.set b o=E)/\(m'=true->cnt2 A E<cnt2 (I.set b i) (O.set b o))/\(m'=false->(m2=false->∀b':Nat,b<b'->b'<c.blocks.length->CL c I O b')->∀b':Nat,b<=b'->b'<c.blocks.length->CL c (I.set b i) (O.set b o) b'):=by
 have hm:=stp_more h hb s
 have key:m'=false->m2=false/\(o.length:Int)=((cX O b).length:Int)/\(i.length:Int)=((cX I b).length:Int):=fun hf=>by rw[e]at hf;simp only[a0O,bne_eq_false_iff_eq]at hf;exact⟨hf.1.1,hf.1.2,hf.2⟩
 refine⟨fun hf=>?_,fun ht=>?_,fun hf hc b' h2 h3=>?_⟩
 ·obtain⟨k1,k2,Z⟩:=key hf;obtain⟨N,T,_⟩:=stp_same h hb s k2 Z;rw[N,T];exact U k1
 ·rw[e]at ht;simp only[a0F,bne_iff_ne]at ht;rcases ht with(ht|ht)|ht
  ·have:=V ht;omega
  ·have:=hm.2 (.inl ht);cases m2 with
   |false=>obtain⟨rfl,rfl⟩:=U rfl;exact this
   |true=>have:=V rfl;omega
  have:=hm.2 (.inr ht);cases m2 with
  |false=>obtain⟨rfl,rfl⟩:=U rfl;exact this
  |true=>have:=V rfl;omega
 obtain⟨k1,k2,Z⟩:=key hf
 obtain⟨N,T,e3⟩:=stp_same h hb s k2 Z
 rw[N,T]
 rcases a1W h2 with e'|e'
 ·subst e';exact e3
 exact hc k1 b' e' h3
theorem bkf_of{c:VFnT}{I O:List (List Int)}(h:RSn c I O)(hc: ∀b,b<c.blocks.length->CL c I O b):BkF c I O:=by
 have hclo:Clo c (fun b r=>oS (cX I b) r):=fun b hb r hr=>(hc b hb).2 r (e7 (fun q hq=>(hc b hb).1 q hq) r hr)
 refine⟨h.li,h.lo,fun b hb=>⟨h.ai b,fun x=>⟨h.si b x,fun hx=>?_⟩⟩,fun b hb=>⟨h.ao b,fun x=>⟨h.so b x,fun hx=>?_⟩⟩⟩
 ·have:=hx.2 _ hclo;unfold oS at this;rwa [a14 hx.1]at this
 obtain⟨A,t,E,N⟩:=hx;have:=(hc b hb).1 x.toNat ⟨t,E,N _ hclo⟩;unfold oS at this;rwa [a14 A]at this
theorem ptf_of{c:VFnT}{b:Nat}{o:List Int}{l:List (List Int)}(ho:Lst o (kW c b))(h:RpF (aU c b) o l):PtF c b l:=by
 refine⟨h.len,fun i hi=>Lst.ext (h.pt i hi) fun r=>?_⟩;unfold rpS ptS;have e: ∀r,oS o r↔kW c b r:=jI ho;constructor
 ·exact lj (fun q hq=>hq.imp (e q).1 id) _ r
 exact lj (fun q hq=>hq.imp (e q).2 id) _ r
set_option maxHeartbeats 2000000 in
theorem rblocks_c{av:Option Addr}{a0:Nat}(c:VFnT)(hs:HS (.of H []) F H [] R)(iz:in64 c.params)(i1:in64 c.regs)(V:SR F (sL av c.blocks.length a0) c.blocks)(hT:TB 37 tabC F)(hins: ∀j,(c.blocks.getD j default).ins.length<=1073741824):kKt ex 32 [(aG [(iI c.params),(iI c.regs),(sL av c.blocks.length a0)])] H fun v H'=> ∃(ax:Option Addr) (kx:Nat) (x:List (List Int)) (ay:Option Addr) (ky:Nat) (y:List (List Int)) (F':Fz),Fz.le F F'/\HS (.of H []) F' H' [] R/\v= .tuple ⟨[sL ax x.length kx,sL ay y.length ky]⟩/\SR F' (sL ax x.length kx) x/\SR F' (sL ay y.length ky) y/\(bJ c=true->BkF c x y)/\(bJ c=false->x=[]/\y=[]):=by
 refine aE Tryd.func32 rfl rfl (au 1 rfl (aa (aF (aV hs rfl rfl) rfl rfl ?_)));rintro _ H2 _ ⟨b1,rfl,(f3:HS _ _ _ [(fP b1 [(iI c.params),(iI c.regs),(sL av c.blocks.length a0)])] _),_⟩;let hn:Value:=(aG [(iI c.params),(iI c.regs),(sL av c.blocks.length a0)])
 refine wTo 2 1 [] 2 3 [] [(2,(sL none 0 0)),(3,(sL none 0 0))] rfl fun _=>ap 3 rfl (aa (wUo 1 0 [(0,.o hn)] 12 12 [] [(12,hn)] (qn 24 0 3 (HS.hc f3 (i:=0) rfl) rfl rfl rfl rfl) rfl fun _=>aI (am rfl rfl rfl) rfl rfl (m3.fM ex c (HS.call f3) (by omega) (by omega) V hT (fun j=>a0c (hins j) (by omega))) ?_))
 rintro _ H5 ⟨r5,F5,d2,ci,rfl,rfl⟩;replace ci:HS _ _ _ [_] _:=HS.back f3 rfl ci;replace hT:=hT.mono d2;replace V:=V.mono d2;refine wTo 1 2 [] 14 14 [] [(14,(.bool (!(bJ c))))] rfl fun _=>ap 1 rfl (aq 1 2 (v:=(!(bJ c))) rfl rfl rfl rfl (fun c7=>?_) (fun c7=>?_))
 ·try simp only[BS]at c7
  have hv:=c7;refine wT 1 [] 2 3 [] [(2,(sL none 0 0)),(3,(sL none 0 0))] rfl fun _=>aj ⟨.inr rfl,_,rfl,none,0,([]:List (List Int)),none,0,([]:List (List Int)),_,(d2),(HS.forget ci),rfl,(SR.nil:SR F5 (sL none 0 0) ([]:List (List Int))),(SR.nil:SR F5 (sL none 0 0) ([]:List (List Int))),(fun h=>absurd (h.symm.trans hv) (by decide)),(fun _=>⟨rfl,rfl⟩)⟩
 try simp only[BS]at c7
 have hv:=c7;have vF:=eT hv;have hnb:=vF.nb;have hrg:=vF.regs;refine aO rfl (wfv (v:=(pT b1 2)) (dr rfl rfl) (aC (v:=(sL av c.blocks.length a0)) (id:= .l b1) (bG (i:=2) rfl rfl (HS.hc ci.log0 (i:=0) rfl) rfl rfl) rfl rfl (bC rfl) (kb rfl) (aC (v:=(iI (c.blocks.length:Int))) (id:= .v) (iB (α:=BlkT) rfl rfl (SR.sv V ci.log0)) rfl rfl (jU rfl) (el _) (bV (id:= .x []) (cx ([]:(List Int)) ci.log0 rfl rfl rfl rfl rfl rfl rfl rfl rfl ⟨none,0,rfl,SR.nil⟩ (by omega) (by omega)) rfl rfl (by rintro _ _ p9 ⟨a9,k9,rfl,hj,_,hwr⟩;exact bR rfl rfl (Wr.did hwr)) (kb rfl) ?_))));rintro _ hK p9 ⟨a9,k9,rfl,hj,a7,_⟩ hF g8;replace a7:=HS.lg a7 ci g8;generalize ({hK with log:=hF}:Heap)=ih at a7⊢;have a7:HS _ _ _ [_,p9] _:=a7;refine wfv (v:=(pT b1 2)) (dr rfl rfl) (aC (v:=(sL av c.blocks.length a0)) (id:= .l b1) (bG (i:=2) rfl rfl (HS.hc a7.log0 (i:=0) rfl) rfl rfl) rfl rfl (bC rfl) (⟨.inl rfl,⟨.inr a0e,⟨.inr trivial,⟨.inr trivial,⟨.inr trivial,trivial⟩⟩⟩⟩⟩) (aC (v:=(iI (c.blocks.length:Int))) (id:= .v) (iB (α:=BlkT) rfl rfl (SR.sv V a7.log0)) rfl rfl (jU rfl) (el _) (bV (id:= .x []) (cx ([]:(List Int)) a7.log0 rfl rfl rfl rfl rfl rfl rfl rfl rfl ⟨none,0,rfl,SR.nil⟩ (by omega) (by omega)) rfl rfl (by rintro _ _ g6 ⟨et,g3,rfl,f2,_,hwr⟩;exact bR rfl rfl (Wr.did hwr)) (⟨.inl rfl,⟨.inl rfl,⟨.inl rfl,⟨.inr ⟨trivial,trivial⟩,⟨.inr trivial,⟨.inr a0e,⟨.inr trivial,trivial⟩⟩⟩⟩⟩⟩⟩) ?_)));rintro _ hM g6 ⟨et,g3,rfl,f2,b4,_⟩ hG g9;replace b4:=HS.lg b4 a7 g9;generalize ({hM with log:=hG}:Heap)=ik at b4⊢;have b4:HS _ _ _ [_,_,g6] _:=b4;let g7:Fp:=(fP b1 [(iI c.params),(iI c.regs),(sL av c.blocks.length a0)])
 refine fa (sL a9 (List.replicate c.blocks.length ([]:(List Int))).length k9) rfl rfl rfl (fa (sL et (List.replicate c.blocks.length ([]:(List Int))).length g3) rfl rfl rfl (br (au 3 rfl (wT 2 [] 1 0 [6] [(6,(.bool true))] rfl fun _=>ah (fun(mm:Nat) f H'=> ∃(mo:Bool) (I1:List (List Int)) (O1:List (List Int)) (a1:Option Addr) (a3:Nat) (b3:Fp) (a2:Option Addr) (a4:Nat) (bk:Fp) (F':Fz),Fz.le F5 F'/\HS (Base.of H []) F' H' [g7,b3,bk] R/\OS F' (sL a1 I1.length a3) I1 b3/\OS F' (sL a2 O1.length a4) O1 bk/\az f [(1,(pT b1 0)),(4,(sL a1 I1.length a3)),(5,(sL a2 O1.length a4)),(6,(.bool mo))]/\mm=mea mo (c.blocks.length*6000) (cnt2 I1 O1)/\(RSn c I1 O1)/\(mo=false->∀b,b<c.blocks.length->CL c I1 O1 b)) _ ⟨true,List.replicate c.blocks.length ([]:(List Int)),List.replicate c.blocks.length ([]:(List Int)),a9,k9,p9,et,g3,g6,_,fR,b4,hj,f2,⟨rfl,rfl,rfl,rfl,trivial⟩,rfl,(rsn_zero rfl),(by intro h;cases h)⟩ ?_))));rintro kd la kz ⟨mo,I1,O1,a1,a3,b3,a2,a4,bk,hI,c4,dl,c8,b2,fi,rfl,em,cl⟩ hB;refine ak _ fi (fun _=>?_);clear fi;replace hT:=hT.mono c4;replace V:=V.mono c4;have i2:=em.li;have ja:=em.lo;refine au 2 rfl (wT 1 [] 23 23 [] [(23,(.bool mo))] rfl fun _=>aq 3 5 (v:=mo) rfl rfl rfl rfl (fun d1=>?_) (fun d1=>?_))
 ·try simp only[BS]at d1
  have hmo:=d1;refine wT 2 [] 1 0 [6] [(6,(.bool false))] rfl fun _=>wR 2 [(1,.o (sL av c.blocks.length a0))] 24 27 [7] [(7,(iI ((c.blocks.length:Int)-1)))] (vA (ql 22 2 (HS.hc dl (i:=0) rfl) rfl rfl) (vA (vi (n:=(c.blocks.length:Int)-1) (by omega)) trivial)) rfl fun _=>ah (fun(mm:Nat) f H'=> ∃(bz:Int) (m2:Bool) (I2:List (List Int)) (O2:List (List Int)) (T:Option Addr) (U:Nat) (a5:Fp) (A:Option Addr) (N:Nat) (a6:Fp) (F':Fz),Fz.le hI F'/\HS (Base.of H []) F' H' [g7,a5,a6] R/\OS F' (sL T I2.length U) I2 a5/\OS F' (sL A O2.length N) O2 a6/\az f [(1,(pT b1 0)),(4,(sL T I2.length U)),(5,(sL A O2.length N)),(6,(.bool m2)),(7,(iI bz))]/\mm=(bz+1).toNat/\(RSn c I2 O2)/\(-1<=bz/\bz<(c.blocks.length:Int))/\(m2=false->I2=I1/\O2=O1)/\(m2=true->cnt2 I1 O1<cnt2 I2 O2)/\(m2=false->∀b:Nat,bz<(b:Int)->b<c.blocks.length->CL c I2 O2 b)) _ ⟨(c.blocks.length:Int)-1,false,I1,O1,a1,a3,b3,a2,a4,bk,_,fR,dl,c8,b2,⟨rfl,rfl,rfl,rfl,rfl,trivial⟩,rfl,(em),(by omega),(fun _=>⟨rfl,rfl⟩),(by intro h;cases h),(by intro _ b h1 h2;omega)⟩ ?_
  rintro kg lf k0 ⟨bz,m2,I2,O2,T,U,a5,A,N,a6,kk,c5,b5,E,Z,f0,rfl,bl,hbz,hS,hh,hcl⟩ hC;refine ak _ f0 (fun _=>?_);clear f0;replace hT:=hT.mono c5;replace V:=V.mono c5;have i3:=bl.li;have jb:=bl.lo;refine au 2 rfl (wT 1 [] 28 29 [] [(29,(.bool (decide ((0:Int)<=bz))))] rfl fun _=>aq 4 5 (v:=(decide ((0:Int)<=bz))) rfl rfl rfl rfl (fun e0=>?_) (fun e0=>?_))
  ·try simp only[BS]at e0
   have hbn:bz.toNat<c.blocks.length:=by omega
   have hbl:=hins bz.toNat;refine wT 2 [] 1 0 [8] [(8,(sL none 0 0))] rfl fun _=>aa ?_
   obtain⟨e3,f5⟩:=Sv.view (SR.sv V b5);obtain⟨hY,h0,h3,h4,he⟩:=BlkT.fx (f5 bz.toNat);let hp:Value:=(aG [(sL (cA (e3 bz.toNat) 0) (c.blocks.getD bz.toNat default).ins.length (cK (e3 bz.toNat) 0)),(iI (c.blocks.getD bz.toNat default).fin),(iI (c.blocks.getD bz.toNat default).reg),(iI (c.blocks.getD bz.toNat default).tgt),(iI (c.blocks.getD bz.toNat default).els)])
   refine wRo 5 0 [(1,.o (sL av c.blocks.length a0)),(4,.o hp)] 32 36 [] [(36,hp)] (vA (ql 22 2 (HS.hc b5 (i:=0) rfl) rfl rfl) (vA (Sv.ix (j:=bz) (SR.sv V b5) (by omega) (by omega)) (vA (qn 48 0 5 (BlkT.vw (f5 bz.toNat) (by omega)) rfl rfl rfl rfl) trivial))) rfl fun _=>aI (am rfl rfl rfl) rfl rfl (ma.rsucc_c ex (c.blocks.getD bz.toNat default) (HS.call b5) he (by omega) (by omega) (by omega) (by omega) hT) ?_
   rintro _ k3 ⟨ey,g4,l0,hg,ch,dn,rfl,cc,rfl⟩;replace dn:HS _ _ _ [_,a5,a6] _:=HS.back b5 rfl dn;refine wa (sL ey (bc (c.blocks.getD bz.toNat default)).length g4) rfl rfl rfl (ap 3 rfl (wT 2 [] 1 0 [10] [(10,(iI 0))] rfl fun _=>ah (fun(mm:Nat) f H'=> ∃(o:List Int) (q:Nat) (al:Option Addr) (an:Nat) (F':Fz),Fz.le hg F'/\HS (Base.of H []) F' H' [g7,a5,a6] R/\SR F' (sL al o.length an) o/\az f [(1,(pT b1 0)),(4,(sL T I2.length U)),(5,(sL A O2.length N)),(6,(.bool m2)),(7,(iI bz)),(8,(sL al o.length an)),(9,(sL ey (bc (c.blocks.getD bz.toNat default)).length g4)),(10,(iI (q:Int)))]/\mm=(bc (c.blocks.getD bz.toNat default)).length-q/\(Lst o (uS c I2 bz.toNat q))/\(q<=(bc (c.blocks.getD bz.toNat default)).length)) _ ⟨([]:List Int),0,none,0,_,fR,dn,(SR.nil:SR hg (sL none 0 0) ([]:List Int)),⟨rfl,rfl,rfl,rfl,rfl,rfl,rfl,rfl,trivial⟩,rfl,(uS_zero),(by omega)⟩ ?_));rintro ki ll k4 ⟨o,q,al,an,kl,b0,ag,bb,f1,rfl,ho,hq⟩ hD;refine ak _ f1 (fun _=>?_);clear f1;replace hT:=(hT.mono ch).mono b0;replace V:=(V.mono ch).mono b0;replace cc:=cc.mono b0;replace E:=(E.mono ch).mono b0;replace Z:=(Z.mono ch).mono b0;have jw:=succ_len (b:=(c.blocks.getD bz.toNat default));refine au 2 rfl (wT 1 [] 38 41 [] [(41,(.bool (decide ((q:Int)<((bc (c.blocks.getD bz.toNat default)).length:Int)))))] rfl fun _=>aq 3 5 (v:=(decide ((q:Int)<((bc (c.blocks.getD bz.toNat default)).length:Int)))) rfl rfl rfl rfl (fun e1=>?_) (fun e1=>?_))
   ·try simp only[BS]at e1
    have hmem:=gf (l:=bc (c.blocks.getD bz.toNat default)) (q:=q) (by omega);have hst:=vF.succ bz.toNat hbn _ hmem;have hul:=Lst.len ho hrg.1 (fun r h=>uS_lt vF bl h);have hil:((I2.getD ((bc (c.blocks.getD bz.toNat default)).getD q 0).toNat default).length:Int)<=c.regs:=(rsn_len vF bl ((bc (c.blocks.getD bz.toNat default)).getD q 0).toNat).1;refine aa ?_;obtain⟨it,f6⟩:=Sv.view (SR.sv cc ag);have lr:=fI (f6 q);obtain⟨c0,f7⟩:=Sv.view (OS.sv E ag (i:=1) rfl);have hW:=fL (f7 ((bc (c.blocks.getD bz.toNat default)).getD q 0).toNat);refine wRo 8 0 [(5,.o (iI ((bc (c.blocks.getD bz.toNat default)).getD q 0))),(7,.o (sL (cA (c0 ((bc (c.blocks.getD bz.toNat default)).getD q 0).toNat) 0) (I2.getD ((bc (c.blocks.getD bz.toNat default)).getD q 0).toNat default).length (cK (c0 ((bc (c.blocks.getD bz.toNat default)).getD q 0).toNat) 0)))] 44 51 [] [(44,(sL al o.length an)),(51,(sL (cA (c0 ((bc (c.blocks.getD bz.toNat default)).getD q 0).toNat) 0) (I2.getD ((bc (c.blocks.getD bz.toNat default)).getD q 0).toNat default).length (cK (c0 ((bc (c.blocks.getD bz.toNat default)).getD q 0).toNat) 0)))] (vA (Sv.ix (j:=(q:Int)) (SR.sv cc ag) (by omega) (by omega)) (vA (ql 3 0 (vI (f6 q) (by omega)) rfl rfl) (vA (Sv.ix (j:=((bc (c.blocks.getD bz.toNat default)).getD q 0)) (OS.sv E ag (i:=1) rfl) (by omega) (by omega)) (vA (ql 25 0 (vL (f7 ((bc (c.blocks.getD bz.toNat default)).getD q 0).toNat) (by omega)) rfl rfl) trivial)))) rfl fun _=>aI (am rfl rfl rfl) rfl rfl (ma.eU ex o (I2.getD ((bc (c.blocks.getD bz.toNat default)).getD q 0).toNat default) (HS.call ag) bb hW hT (by omega)) ?_
    rintro _ k5 ⟨ez,g5,l1,kn,hw,ds,rfl,ha,rfl⟩;replace ds:HS _ _ _ [_,_,_] _:=HS.back ag rfl ds;refine wa (sL ez (cL o (I2.getD ((bc (c.blocks.getD bz.toNat default)).getD q 0).toNat default)).length g5) rfl rfl rfl (ap 2 rfl (wU 1 [] 42 43 [10] [(10,(iI ((q:Int)+1)))] (vi (n:=(q:Int)+1) (by omega)) rfl fun _=>hD _ _ _ ?_ ⟨cL o (I2.getD ((bc (c.blocks.getD bz.toNat default)).getD q 0).toNat default),q+1,ez,g5,_,(fT (b0) hw),ds,ha,⟨rfl,rfl,rfl,rfl,rfl,rfl,rfl,rfl,trivial⟩,rfl,(uS_step bl (show q<(bc (c.blocks.getD bz.toNat default)).length by omega) ho),(by omega)⟩));omega
   try simp only[BS]at e1
   refine aa ?_;obtain⟨e4,f8⟩:=Sv.view (SR.sv V ag);obtain⟨h5,h6,h7,h8,hf⟩:=BlkT.fx (f8 bz.toNat);let hr:Value:=(aG [(sL (cA (e4 bz.toNat) 0) (c.blocks.getD bz.toNat default).ins.length (cK (e4 bz.toNat) 0)),(iI (c.blocks.getD bz.toNat default).fin),(iI (c.blocks.getD bz.toNat default).reg),(iI (c.blocks.getD bz.toNat default).tgt),(iI (c.blocks.getD bz.toNat default).els)])
   refine wRo 6 0 [(1,.o (sL av c.blocks.length a0)),(4,.o hr)] 53 58 [] [(57,hr),(58,(sL al o.length an))] (vA (ql 22 2 (HS.hc ag (i:=0) rfl) rfl rfl) (vA (Sv.ix (j:=bz) (SR.sv V ag) (by omega) (by omega)) (vA (qn 48 0 5 (BlkT.vw (f8 bz.toNat) (by omega)) rfl rfl rfl rfl) trivial))) rfl fun _=>aI (am rfl rfl rfl) rfl rfl (mh.rpoints_c ex (c.blocks.getD bz.toNat default) o (HS.call ag) hf (by omega) (by omega) (by omega) (by omega) bb hT (⟨_,rpo_of vF bl hbn hbl ho⟩)) ?_
   rintro _ k6 ⟨il,kc,b6,hV,ko,c6,aw,rfl,ea,iv⟩;replace aw:HS _ _ _ [_,_,_,hV] _:=HS.back ag rfl aw;replace E:=E.mono c6;replace Z:=Z.mono c6;replace bb:=bb.mono c6;obtain⟨a8,f9⟩:=Sv.view (OS.sv ea aw (i:=3) rfl);have hX:=fL (f9 0);refine wRo 3 7 [(8,.o (sL (cA (a8 0) 0) (b6.getD 0 default).length (cK (a8 0) 0)))] 60 61 [11] [(11,(sL (cA (a8 0) 0) (b6.getD 0 default).length (cK (a8 0) 0)))] (vA (Sv.ix (j:=0) (OS.sv ea aw (i:=3) rfl) (by decide) (by(have hq:=RpF.len (by assumption);omega))) (vA (ql 25 0 (vL (f9 0) (by(have hq:=RpF.len (by assumption);omega))) rfl rfl) trivial)) rfl fun _=>ap 2 rfl ?_
   obtain⟨e5,go⟩:=Sv.view (OS.sv Z aw (i:=2) rfl);have l2:=fL (go bz.toNat);obtain⟨e6,g2⟩:=Sv.view (OS.sv E aw (i:=1) rfl);have l3:=fL (g2 bz.toNat);refine wR 1 [(7,.o (sL (cA (e5 bz.toNat) 0) (O2.getD bz.toNat default).length (cK (e5 bz.toNat) 0))),(17,.o (sL (cA (e6 bz.toNat) 0) (I2.getD bz.toNat default).length (cK (e6 bz.toNat) 0)))] 62 82 [6] [(6,(.bool ((m2||((o.length:Int) !=((O2.getD bz.toNat default).length:Int)))||(((b6.getD 0 default).length:Int) !=((I2.getD bz.toNat default).length:Int)))))] (vA (fun(g1:m2=false)=>(Sv.ix (j:=bz) (OS.sv Z aw (i:=2) rfl) (by(try simp only[BS]at g1);(first|(dsimp only;omega)|omega|(have hq:=RpF.len (by assumption);dsimp only at hq⊢;omega)|(have hq:=RpF.len (by assumption);omega))) (by(try simp only[BS]at g1);(first|(dsimp only;omega)|omega|(have hq:=RpF.len (by assumption);dsimp only at hq⊢;omega)|(have hq:=RpF.len (by assumption);omega))))) (vA (fun(g1:m2=false)=>(ql 25 0 (vL (go bz.toNat) (by(try simp only[BS]at g1);(first|(dsimp only;omega)|omega|(have hq:=RpF.len (by assumption);dsimp only at hq⊢;omega)|(have hq:=RpF.len (by assumption);omega)))) rfl rfl)) (vA (fun(g1:(m2||((o.length:Int) !=((O2.getD bz.toNat default).length:Int)))=false)=>(Sv.ix (j:=bz) (OS.sv E aw (i:=1) rfl) (by(try simp only[BS]at g1);(first|(dsimp only;omega)|omega|(have hq:=RpF.len (by assumption);dsimp only at hq⊢;omega)|(have hq:=RpF.len (by assumption);omega))) (by(try simp only[BS]at g1);(first|(dsimp only;omega)|omega|(have hq:=RpF.len (by assumption);dsimp only at hq⊢;omega)|(have hq:=RpF.len (by assumption);omega))))) (vA (fun(g1:(m2||((o.length:Int) !=((O2.getD bz.toNat default).length:Int)))=false)=>(ql 25 0 (vL (g2 bz.toNat) (by(try simp only[BS]at g1);(first|(dsimp only;omega)|omega|(have hq:=RpF.len (by assumption);dsimp only at hq⊢;omega)|(have hq:=RpF.len (by assumption);omega)))) rfl rfl)) trivial)))) rfl fun _=>aa (wUo 7 0 [] 83 89 [] [(85,(sL A O2.length N)),(86,(iI bz)),(87,(sL (cA (a8 0) 0) (b6.getD 0 default).length (cK (a8 0) 0))),(88,(sL al o.length an)),(89,(.pointer (some ⟨sB (sL T I2.length U),sO (sL T I2.length U)+bz.toNat*Rp.sz (List Int),none⟩)))] (Sv.ix (j:=bz) (OS.sv E aw (i:=1) rfl) (by omega) (by omega)) rfl fun _=>aR (cP (α:=(List Int)) (j:=bz.toNat) (off:=0) (q:=1) (b6.getD 0 default) E aw rfl rfl rfl rfl rfl rfl rfl rfl (aM (x:=default) (by omega)) rfl (by rintro cs ⟨_,_,rfl,_⟩;exact⟨a06 rfl,⟨(cA (a8 0) 0),(cK (a8 0) 0),rfl,hX⟩⟩)) rfl ?_)
   rintro _ k7 hk ⟨c9,(f4:HS _ _ _ [_,hk,_,_] _),_⟩;have h9:=OS.len' c9;refine wUo 1 8 [] 90 90 [] [(90,(.pointer (some ⟨sB (sL A O2.length N),sO (sL A O2.length N)+bz.toNat*Rp.sz (List Int),none⟩)))] (Sv.ix (j:=bz) (OS.sv Z f4 (i:=2) rfl) (by omega) (by omega)) rfl fun _=>aR (cP (α:=(List Int)) (j:=bz.toNat) (off:=0) (q:=2) o Z f4 rfl rfl rfl rfl rfl rfl rfl rfl (aM (x:=default) (by omega)) rfl (by rintro cs ⟨_,_,rfl,_⟩;exact⟨a06 rfl,⟨al,an,rfl,bb⟩⟩)) rfl ?_
   rintro _ k8 hl ⟨dd,(hA:HS _ _ _ [_,_,hl,_] _),_⟩;have ib:=OS.len' dd;refine ap 2 rfl (wU 1 [] 30 31 [7] [(7,(iI (bz-1)))] (vi (n:=bz-1) (by omega)) rfl fun _=>?_);have hst:=stp_of (I:=I2) (O:=O2) (show(bc (c.blocks.getD bz.toNat default)).length<=q by omega) ho (by assumption);have hmv:=mv bl hbn hst hS hh rfl;refine hC _ _ _ ?_ ⟨bz-1,((m2||((o.length:Int) !=((O2.getD bz.toNat default).length:Int)))||(((b6.getD 0 default).length:Int) !=((I2.getD bz.toNat default).length:Int))),I2.set bz.toNat (b6.getD 0 default),O2.set bz.toNat o,T,U,hk,A,N,hl,_,(fT (fT (fT (c5) ch) b0) c6),(HS.sub hA (a02 _ _)),(OS.norm c9),(OS.norm dd),(agC rfl (agC (show Value.slice T I2.length U=Value.slice T (I2.set bz.toNat (b6.getD 0 default)).length U by rw[OS.len' c9]) (agC (show Value.slice A O2.length N=Value.slice A (O2.set bz.toNat o).length N by rw[OS.len' dd]) ⟨rfl,rfl,trivial⟩))),rfl,(rsn_set bl hbn hst),(by omega),(hmv.1),(hmv.2.1),(fun h b h1 h2=>hmv.2.2 h (fun hm b h1=>hcl hm b (by omega)) b (by omega) h2)⟩;omega
  try simp only[BS]at e0
  refine hB _ _ _ ?_ ⟨m2,I2,O2,T,U,a5,A,N,a6,_,(fT (c4) c5),b5,E,Z,⟨rfl,rfl,rfl,rfl,trivial⟩,rfl,(bl),(fun h b hb=>hcl h b (by omega) hb)⟩;rw[hmo];exact mea_lt hh (cnt2_le vF bl)
 try simp only[BS]at d1
 refine wT 1 [] 2 3 [91,92] [(2,(sL a1 I1.length a3)),(3,(sL a2 O1.length a4))] rfl fun _=>?_
 obtain⟨kr,e9,dt,dk,jc⟩:=OS.frz c8 dl (i:=1) rfl;have dt:HS _ _ _ [_,[],bk] _:=dt;replace b2:=b2.mono e9;obtain⟨kt,fd,dv,hz,jq⟩:=OS.frz b2 dt (i:=2) rfl;have dv:HS _ _ _ [_,_,[]] _:=dv;replace dk:=dk.mono fd;refine aj ⟨.inr rfl,_,rfl,a1,a3,I1,a2,a4,O1,_,(fT (fT (fT (d2) c4) e9) fd),(HS.forget dv),rfl,dk,hz,(fun _=>bkf_of em (cl (by assumption))),(fun h=>absurd (hv.symm.trans h) (by decide))⟩
end Go.Proofs.YtknafdcgpaejlaaDoor.mi
