/-
 Live registers: the reference solution of the equations, by a symbolic run. No condition but bounds on lengths.
-/
import Derived.Test.YtknafdcgpaejlaaDoorZLMH
noncomputable section
namespace Go.Proofs.YtknafdcgpaejlaaDoor.mi
open Go.R
set_option maxRecDepth 10000
set_option linter.unusedVariables false
set_option linter.unusedSimpArgs false
variable (ex:FuncId) {F:Fz} {H:Heap} {R:List Fp}
open m1 m2 m3 m4 m5 m6 ma ml mb mc md mf mg mh
abbrev cP(l:List (List Int))(b:Nat):List Int:=l.getD b default
structure RSn(c:VFnT)(I O:List (List Int)):Prop where
 li:I.length=c.blocks.length
 lo:O.length=c.blocks.length
 ai: ∀b,Asc (cP I b)
 ao: ∀b,Asc (cP O b)
 si: ∀b,∀x∈cP I b,0<=x/\LIn c b x.toNat
 so: ∀b,∀x∈cP O b,0<=x/\ku c b x.toNat
 mo: ∀b,b<c.blocks.length->∀r,oS (cP O b) r->outS c (fun t r=>oS (cP I t) r) b r
 mi: ∀b,b<c.blocks.length->∀r,oS (cP I b) r->inS (bB c b) (oS (cP O b)) r
theorem rsn_zero{c:VFnT}{n:Nat}(h:n=c.blocks.length):RSn c (List.replicate n []) (List.replicate n []):=by
 have e: ∀b,cP (List.replicate n ([]:List Int)) b=[]:=fun b=>by unfold cP;rw[a02,a1j];split<;>rfl
 have no: ∀b r,¬oS (cP (List.replicate n ([]:List Int)) b) r:=fun b r h=>by rw[e]at h;cases h
 exact⟨by simp[h],by simp[h],fun b=>by rw[e];exact List.Pairwise.nil,fun b=>by rw[e];exact List.Pairwise.nil,fun b x hx=>by(rw[e]at hx;cases hx),fun b x hx=>by(rw[e]at hx;cases hx),fun b _ r h=>absurd h (no b r),fun b _ r h=>absurd h (no b r)⟩
theorem cC{l:List (List Int)}{b b':Nat}{x:List Int}(hb:b<l.length):cP (l.set b x) b'=if b=b' then x else cP l b':=by
 unfold cP;rw[di];by_cases h:b=b'
 ·subst h;rw[if_pos ⟨rfl,hb⟩,if_pos rfl]
 rw[if_neg (fun e=>h e.1),if_neg h]
theorem kY: ∀{b a:List Int},Asc a->Asc b->(∀x∈a,x∈b)->a.Sublist b
 | [],[],_,_,_=>List.Sublist.refl _
 | [],x::a,_,_,h=>absurd (h x (a0z ..)) a0b
 |y::b,[],_,_,_=>List.nil_sublist _
 |y::b,x::a,ha,hb,h=>by
  have ha':=List.pairwise_cons.1 ha;have hb':=List.pairwise_cons.1 hb;by_cases e:x=y
  ·subst e;refine List.Sublist.cons_cons _ (kY ha'.2 hb'.2 fun z hz=>?_);rcases a0v.1 (h z (a0j _ hz)) with e|e
   ·subst e;have:=ha'.1 z hz;omega
   exact e
  have hx:x∈b:=by
   rcases a0v.1 (h x (a0z ..)) with e'|e'
   ·exact absurd e' e
   exact e'
  have hyx:=hb'.1 x hx;refine List.Sublist.cons _ (kY ha hb'.2 fun z hz=>?_);rcases a0v.1 (h z hz) with e'|e'
  ·rcases a0v.1 hz with A|A
   ·exact absurd (A.symm.trans e') e
   have:=ha'.1 z A;omega
  exact e'
theorem km{a b:List Int}(ha:Asc a)(hb:Asc b)(h: ∀x∈a,x∈b)(hl:b.length=a.length):a=b:=(kY ha hb h).eq_of_length hl.symm
theorem jC{a b:List Int}(ha:Asc a)(hb:Asc b)(h: ∀x∈a,x∈b):a.length<=b.length:=(kY ha hb h).length_le
theorem Lst.ext{l:List Int}{S S':Nat->Prop}(h:Lst l S)(hs: ∀r,S r↔S' r):Lst l S':=⟨h.asc,fun x=>by rw[h.mem,hs]⟩
def uS(c:VFnT)(I:List (List Int))(b q r:Nat):Prop:= ∃t∈(aZ (bB c b)).take q,oS (cP I t.toNat) r
theorem uS_zero{c:VFnT}{I:List (List Int)}{b:Nat}:Lst [] (uS c I b 0):=Lst.nil fun r ⟨t,h,_⟩=>by simp at h
theorem RSn.lstI{c:VFnT}{I O:List (List Int)}(h:RSn c I O)(b:Nat):Lst (cP I b) (oS (cP I b)):=⟨h.ai b,fun x=>⟨fun hx=>⟨(h.si b x hx).1,by unfold oS;rwa [a10 (h.si b x hx).1]⟩,fun hx=>by have A:=hx.2;unfold oS at A;rwa [a10 hx.1]at A⟩⟩
theorem uS_step{c:VFnT}{I O:List (List Int)}{b q:Nat}{o:List Int}(hs:RSn c I O)(hq:q<(aZ (bB c b)).length)(h:Lst o (uS c I b q)):Lst (cF o (cP I ((aZ (bB c b)).getD q 0).toNat)) (uS c I b (q+1)):=by
 refine Lst.ext (Lst.union h (hs.lstI _)) fun r=>?_
 unfold uS;rw[bw hq (d:=0)];constructor
 ·rintro(⟨t,A,E⟩|A)
  ·exact⟨t,a08.2 (.inl A),E⟩
  exact⟨_,a08.2 (.inr (a0f.2 rfl)),A⟩
 rintro⟨t,A,E⟩;rcases a08.1 A with A|A
 ·exact .inl ⟨t,A,E⟩
 rw[a0f]at A;subst A;exact .inr E
theorem uS_all{c:VFnT}{I:List (List Int)}{b q r:Nat}(hq:(aZ (bB c b)).length<=q):uS c I b q r↔outS c (fun t r=>oS (cP I t) r) b r:=by unfold uS outS;rw[a0h hq]
theorem uS_in{c:VFnT}{I O:List (List Int)}{b q r:Nat}(hs:RSn c I O)(h:uS c I b q r):ku c b r:=by obtain⟨t,A,E⟩:=h;refine⟨t,a1h A,?_⟩;have:=hs.si _ _ E;exact this.2
theorem uS_lt{c:VFnT}(v:VF c){I O:List (List Int)}{b q r:Nat}(hs:RSn c I O)(h:uS c I b q r):(r:Int)<c.regs:=gU v (uS_in hs h)
theorem rpo_of{c:VFnT}(v:VF c){I O:List (List Int)}{b q:Nat}{o:List Int}(hs:RSn c I O)(hb:b<c.blocks.length)(hl:(bB c b).ins.length<=1073741824)(ho:Lst o (uS c I b q)):RpO (bB c b) o c.regs:=by
 refine⟨v.regs,hl,fun i hi=>bE (v.ins b hb i hi),fun x hx=>?_,ho.asc,fun x hx=>?_⟩
 ·unfold dp at hx;split at hx
  ·rename_i hf;rw[a0f]at hx;have:=v.fin b hb hf;omega
  cases hx
 have A:=(ho.mem x).1 hx;have E:=uS_lt v hs A.2;omega
theorem rpo_out{c:VFnT}(v:VF c){b:Nat}{o:List Int}(hb:b<c.blocks.length)(hl:(bB c b).ins.length<=1073741824)(ho:Lst o (ku c b)):RpO (bB c b) o c.regs:=by
 refine⟨v.regs,hl,fun i hi=>bE (v.ins b hb i hi),fun x hx=>?_,ho.asc,fun x hx=>?_⟩
 ·unfold dp at hx;split at hx
  ·rename_i hf;rw[a0f]at hx;have:=v.fin b hb hf;omega
  cases hx
 have A:=(ho.mem x).1 hx;have E:=gU v A.2;omega
theorem jj{l:List Int}{S:Nat->Prop}(h:Lst l S)(r:Nat):oS l r↔S r:=by unfold oS;rw[h.mem];exact⟨fun h=>by simpa using h.2,fun h=>⟨by omega,by simpa using h⟩⟩
structure Stp(c:VFnT)(I O:List (List Int))(b:Nat)(o i:List Int):Prop where
 lo:Lst o (outS c (fun t r=>oS (cP I t) r) b)
 li:Lst i (inS (bB c b) (oS o))
theorem stp_of{c:VFnT}{I O:List (List Int)}{b q:Nat}{o:List Int}{l:List (List Int)}(hq:(aZ (bB c b)).length<=q)(ho:Lst o (uS c I b q))(hl:RpF (bB c b) o l):Stp c I O b o (cP l 0):=
 ⟨Lst.ext ho fun r=>uS_all hq,Lst.ext (hl.pt 0 (a0M _)) fun r=>Iff.rfl⟩
theorem stp_sub{c:VFnT}{I O:List (List Int)}{b:Nat}{o i:List Int}(h:RSn c I O)(hb:b<c.blocks.length)(s:Stp c I O b o i):(∀x∈cP O b,x∈o)/\(∀x∈cP I b,x∈i):=by
 have E: ∀r,oS (cP O b) r->oS o r:=fun r hr=>(jj s.lo r).2 (h.mo b hb r hr)
 refine⟨fun x hx=>?_,fun x hx=>?_⟩
 ·have A:=(h.so b x hx).1;have:=E x.toNat (by unfold oS;rwa [a10 A]);unfold oS at this;rwa [a10 A]at this
 have A:=(h.si b x hx).1;have:=h.mi b hb x.toNat (by unfold oS;rwa [a10 A]);exact(s.li.mem x).2 ⟨A,eL E _ this⟩
theorem rsn_set{c:VFnT}{I O:List (List Int)}{b:Nat}{o i:List Int}(h:RSn c I O)(hb:b<c.blocks.length)(s:Stp c I O b o i):RSn c (I.set b i) (O.set b o):=by
 obtain⟨so,si⟩:=stp_sub h hb s;have hbi:b<I.length:=by rw[h.li];exact hb
 have hbo:b<O.length:=by rw[h.lo];exact hb
 have mI: ∀t r,oS (cP I t) r->oS (cP (I.set b i) t) r:=fun t r hr=>by
  rw[cC hbi];split
  ·rename_i e;subst e;exact si _ hr
  exact hr
 refine⟨by rw[a0d];exact h.li,by rw[a0d];exact h.lo,fun b'=>?_,fun b'=>?_,fun b' x hx=>?_,fun b' x hx=>?_,fun b' hb' r hr=>?_,fun b' hb' r hr=>?_⟩
 ·rw[cC hbi];split
  ·exact s.li.asc
  exact h.ai b'
 ·rw[cC hbo];split
  ·exact s.lo.asc
  exact h.ao b'
 ·rw[cC hbi]at hx;split at hx
  ·rename_i e;subst e;obtain⟨A,T⟩:=(s.li.mem x).1 hx;refine⟨A,lu c b hb _ (eL (fun r hr=>?_) _ T)⟩;obtain⟨t,E,J⟩:=(jj s.lo r).1 hr;have N:=h.si _ _ J;exact⟨t,E,N.2⟩
  exact h.si b' x hx
 ·rw[cC hbo]at hx;split at hx
  ·rename_i e;subst e;obtain⟨A,t,E,J⟩:=(s.lo.mem x).1 hx;have N:=h.si _ _ J;exact⟨A,t,E,N.2⟩
  exact h.so b' x hx
 ·rw[cC hbo]at hr;split at hr
  ·rename_i e;subst e;exact gt (fun t r=>mI t r) _ _ ((jj s.lo r).1 hr)
  exact gt (fun t r=>mI t r) _ _ (h.mo b' hb' r hr)
 rw[cC hbi]at hr;rw[cC hbo];split at hr
 ·rename_i e;subst e;rw[if_pos rfl];exact(jj s.li r).1 hr
 rename_i e;rw[if_neg e];exact h.mi b' hb' r hr
def cntL(I:List (List Int)):Nat:=(I.map List.length).sum
theorem cntL_set{I:List (List Int)}{b:Nat}(hb:b<I.length)(s:List Int):cntL (I.set b s)+(cP I b).length=cntL I+s.length:=by unfold cntL cP;rw[List.map_set];have:=sum_set (I.map List.length) b s.length (by rw[a1y];exact hb);rw[a02,a1l,a04 hb]at this;rw[a02,a04 hb];exact this
theorem cntL_le{l:List (List Int)}{B:Nat}(h: ∀b,(cP l b).length<=B):cntL l<=l.length*B:=by
 unfold cntL;have key: ∀(l:List (List Int)),(∀s∈l,s.length<=B)->(l.map List.length).sum<=l.length*B:=by
  intro l;induction l with
  |nil=>intro _;simp
  |cons s l ih=>
   intro h
   have A:=ih fun x hx=>h x (a0j _ hx)
   have E:=h s (a0z ..)
   rw[List.map_cons,List.sum_cons,a0a,a1e];omega
 refine key l fun s hs=>?_
 obtain⟨b,hb,rfl⟩:=a0x.1 hs;have:=h b;unfold cP at this;rwa [a02,a04 hb]at this
def cnt2(I O:List (List Int)):Nat:=cntL I+cntL O
theorem rsn_len{c:VFnT}(v:VF c){I O:List (List Int)}(h:RSn c I O)(b:Nat):((cP I b).length:Int)<=c.regs/\((cP O b).length:Int)<=c.regs:=by
 have hr:=v.regs;constructor
 ·have:=jD (m:=c.regs) 0 hr.1 (h.ai b) fun x hx=>by obtain⟨A,E⟩:=h.si b x hx;have:=lin_lt v E;exact⟨A,by omega⟩
  omega
 have:=jD (m:=c.regs) 0 hr.1 (h.ao b) fun x hx=>by obtain⟨A,E⟩:=h.so b x hx;have:=gU v E;exact⟨A,by omega⟩
 omega
theorem cnt2_le{c:VFnT}(v:VF c){I O:List (List Int)}(h:RSn c I O):cnt2 I O<=c.blocks.length*6000:=by
 have hr:=v.regs;have A:=cntL_le (l:=I) (B:=3000) fun b=>by have:=(rsn_len v h b).1;omega
 have E:=cntL_le (l:=O) (B:=3000) fun b=>by have:=(rsn_len v h b).2;omega
 rw[h.li]at A;rw[h.lo]at E;unfold cnt2;omega
def CL(c:VFnT)(I O:List (List Int))(b:Nat):Prop:=(∀r,outS c (fun t r=>oS (cP I t) r) b r->oS (cP O b) r)/\∀r,inS (bB c b) (oS (cP O b)) r->oS (cP I b) r
theorem stp_same{c:VFnT}{I O:List (List Int)}{b:Nat}{o i:List Int}(h:RSn c I O)(hb:b<c.blocks.length)(s:Stp c I O b o i)(J:(o.length:Int)=((cP O b).length:Int))(N:(i.length:Int)=((cP I b).length:Int)):I.set b i=I/\O.set b o=O/\CL c I O b:=by
 obtain⟨so,si⟩:=stp_sub h hb s;have A:=km (h.ao b) s.lo.asc so (by omega);have E:=km (h.ai b) s.li.asc si (by omega);refine⟨by rw[←E];exact ef _ _,by rw[←A];exact ef _ _,fun r hr=>?_,fun r hr=>?_⟩
 ·rw[A];exact(jj s.lo r).2 hr
 rw[A]at hr;rw[E];exact(jj s.li r).2 hr
theorem stp_more{c:VFnT}{I O:List (List Int)}{b:Nat}{o i:List Int}(h:RSn c I O)(hb:b<c.blocks.length)(s:Stp c I O b o i):cnt2 I O<=cnt2 (I.set b i) (O.set b o)/\(((o.length:Int)≠((cP O b).length:Int)\/(i.length:Int)≠((cP I b).length:Int))->cnt2 I O<cnt2 (I.set b i) (O.set b o)):=by obtain⟨so,si⟩:=stp_sub h hb s;have A:=jC (h.ao b) s.lo.asc so;have E:=jC (h.ai b) s.li.asc si;have J:=cntL_set (I:=I) (b:=b) (by rw[h.li];exact hb) i;have N:=cntL_set (I:=O) (b:=b) (by rw[h.lo];exact hb) o;unfold cnt2;exact⟨by omega,fun h=>by omega⟩
theorem mv{c:VFnT}{I O A E:List (List Int)}{b:Nat}{o i:List Int}{m2 m':Bool}(h:RSn c I O)(hb:b<c.blocks.length)(s:Stp c I O b o i)(T:m2=false->I=A/\O=E)(U:m2=true->cnt2 A E<cnt2 I O)
  (e:m'=((m2||((o.length:Int) !=((O.getD b default).length:Int)))||((i.length:Int) !=((I.getD b default).length:Int)))):(m'=false->I.set b i=A/\O.set b o=E)/\(m'=true->cnt2 A E<cnt2 (I.set b i) (O.set b o))/\(m'=false->(m2=false->∀b':Nat,b<b'->b'<c.blocks.length->CL c I O b')->∀b':Nat,b<=b'->b'<c.blocks.length->CL c (I.set b i) (O.set b o) b'):=by
 have hm:=stp_more h hb s
 have key:m'=false->m2=false/\(o.length:Int)=((cP O b).length:Int)/\(i.length:Int)=((cP I b).length:Int):=fun hf=>by rw[e]at hf;simp only[a1B,bne_eq_false_iff_eq]at hf;exact⟨hf.1.1,hf.1.2,hf.2⟩
 refine⟨fun hf=>?_,fun ht=>?_,fun hf hc b' h2 h3=>?_⟩
 ·obtain⟨k1,k2,V⟩:=key hf;obtain⟨J,N,_⟩:=stp_same h hb s k2 V;rw[J,N];exact T k1
 ·rw[e]at ht;simp only[a0D,bne_iff_ne]at ht;rcases ht with(ht|ht)|ht
  ·have:=U ht;omega
  ·have:=hm.2 (.inl ht);cases m2 with
   |false=>obtain⟨rfl,rfl⟩:=T rfl;exact this
   |true=>have:=U rfl;omega
  have:=hm.2 (.inr ht);cases m2 with
  |false=>obtain⟨rfl,rfl⟩:=T rfl;exact this
  |true=>have:=U rfl;omega
 obtain⟨k1,k2,V⟩:=key hf
 obtain⟨J,N,Z⟩:=stp_same h hb s k2 V
 rw[J,N]
 rcases a1M h2 with e'|e'
 ·subst e';exact Z
 exact hc k1 b' e' h3
theorem bkf_of{c:VFnT}{I O:List (List Int)}(h:RSn c I O)(hc: ∀b,b<c.blocks.length->CL c I O b):BkF c I O:=by
 have hclo:Clo c (fun b r=>oS (cP I b) r):=fun b hb r hr=>(hc b hb).2 r (eL (fun q hq=>(hc b hb).1 q hq) r hr)
 refine⟨h.li,h.lo,fun b hb=>⟨h.ai b,fun x=>⟨h.si b x,fun hx=>?_⟩⟩,fun b hb=>⟨h.ao b,fun x=>⟨h.so b x,fun hx=>?_⟩⟩⟩
 ·have:=hx.2 _ hclo;unfold oS at this;rwa [a10 hx.1]at this
 obtain⟨A,t,E,J⟩:=hx;have:=(hc b hb).1 x.toNat ⟨t,E,J _ hclo⟩;unfold oS at this;rwa [a10 A]at this
theorem ptf_of{c:VFnT}{b:Nat}{o:List Int}{l:List (List Int)}(ho:Lst o (ku c b))(h:RpF (bB c b) o l):PtF c b l:=by
 refine⟨h.len,fun i hi=>Lst.ext (h.pt i hi) fun r=>?_⟩;unfold rpS ptS;have e: ∀r,oS o r↔ku c b r:=jj ho;constructor
 ·exact kE (fun q hq=>hq.imp (e q).1 id) _ r
 exact kE (fun q hq=>hq.imp (e q).2 id) _ r
set_option maxHeartbeats 2000000 in
theorem rblocks_c{ar:Option Addr}{aw:Nat}(c:VFnT)(hs:HS (.of H []) F H [] R)(ja:in64 c.params)(jb:in64 c.regs)(U:SR F (.slice ar c.blocks.length aw) c.blocks)(hT:TB 37 tabC F)(hins: ∀j,(c.blocks.getD j default).ins.length<=1073741824):kKt ex 32 [(.agg ⟨[(iI c.params),(iI c.regs),(.slice ar c.blocks.length aw)]⟩)] H fun v H'=> ∃(ax:Option Addr) (kx:Nat) (x:List (List Int)) (ay:Option Addr) (ky:Nat) (y:List (List Int)) (F':Fz),Fz.le F F'/\HS (.of H []) F' H' [] R/\v= .tuple ⟨[.slice ax x.length kx,.slice ay y.length ky]⟩/\SR F' (.slice ax x.length kx) x/\SR F' (.slice ay y.length ky) y/\(b8 c=true->BkF c x y)/\(b8 c=false->x=[]/\y=[]):=by
 refine aH Tryd.func32 rfl rfl (aj 1 rfl (aa (aI (bg hs rfl rfl) rfl rfl ?_)));rintro _ H2 _ ⟨b1,rfl,(f7:HS _ _ _ [[(b1,.cells [(iI c.params),(iI c.regs),(.slice ar c.blocks.length aw)] none false)]] _),_⟩;let hu:Value:=(.agg ⟨[(iI c.params),(iI c.regs),(.slice ar c.blocks.length aw)]⟩)
 refine wTo 2 1 [] 2 3 [] [(2,(.slice none 0 0)),(3,(.slice none 0 0))] rfl fun _=>ae 3 rfl (aa (wUo 1 0 [(0,.o hu)] 12 12 [] [(12,hu)] (qn 24 0 3 (HS.hc f7 (i:=0) rfl) rfl rfl rfl rfl) rfl fun _=>aA (am rfl rfl rfl) rfl rfl (m3.fp ex c (HS.call f7) (by omega) (by omega) U hT (fun j=>a0e (hins j) (by omega))) ?_))
 rintro _ H5 ⟨r5,F5,em,ch,rfl,rfl⟩;replace ch:HS _ _ _ [_] _:=HS.back f7 rfl ch;replace hT:=hT.mono em;replace U:=U.mono em;refine wTo 1 2 [] 14 14 [] [(14,(.bool (!(b8 c))))] rfl fun _=>ae 1 rfl (az 1 2 (v:=(!(b8 c))) rfl rfl rfl rfl (fun e5=>?_) (fun e5=>?_))
 ·have c7:=e5;try simp only[BS]at c7
  have hv:=c7;refine wT 1 [] 2 3 [] [(2,(.slice none 0 0)),(3,(.slice none 0 0))] rfl fun _=>aq ⟨.inr rfl,_,rfl,none,0,([]:List (List Int)),none,0,([]:List (List Int)),_,(em),(HS.forget ch),rfl,(SR.nil:SR F5 (.slice none 0 0) ([]:List (List Int))),(SR.nil:SR F5 (.slice none 0 0) ([]:List (List Int))),(fun h=>absurd (h.symm.trans hv) (by decide)),(fun _=>⟨rfl,rfl⟩)⟩
 have c7:=e5;try simp only[BS]at c7
 have hv:=c7;have vF:=fE hv;have hnb:=vF.nb;have hrg:=vF.regs;refine aP rfl (wfv (v:=(.pointer (some ⟨b1,2,none⟩))) (bH rfl rfl) (ap (v:=(.slice ar c.blocks.length aw)) (id:= .l b1) (aR (i:=2) rfl rfl (HS.hc ch.log0 (i:=0) rfl) rfl rfl) rfl rfl (aV rfl) (kb rfl) (ap (v:=(iI (c.blocks.length:Int))) (id:= .v) (hN (α:=BlkT) rfl rfl (SR.sv U ch.log0)) rfl rfl (jv rfl) (bo _) (bT (id:= .x []) (cH ([]:(List Int)) ch.log0 rfl rfl rfl rfl rfl rfl rfl rfl rfl ⟨none,0,rfl,SR.nil⟩ (by omega) (by omega)) rfl rfl (by rintro _ _ p9 ⟨a9,k9,rfl,hp,_,hwr⟩;exact bR rfl rfl (Wr.did hwr)) (kb rfl) ?_))));rintro _ hS p9 ⟨a9,k9,rfl,hp,a6,_⟩ hK hf;replace a6:=HS.lg a6 ch hf;generalize ({hS with log:=hK}:Heap)=iv at a6⊢;have a6:HS _ _ _ [_,p9] _:=a6;refine wfv (v:=(.pointer (some ⟨b1,2,none⟩))) (bH rfl rfl) (ap (v:=(.slice ar c.blocks.length aw)) (id:= .l b1) (aR (i:=2) rfl rfl (HS.hc a6.log0 (i:=0) rfl) rfl rfl) rfl rfl (aV rfl) (⟨.inl rfl,⟨.inr a0b,⟨.inr trivial,⟨.inr trivial,⟨.inr trivial,trivial⟩⟩⟩⟩⟩) (ap (v:=(iI (c.blocks.length:Int))) (id:= .v) (hN (α:=BlkT) rfl rfl (SR.sv U a6.log0)) rfl rfl (jv rfl) (bo _) (bT (id:= .x []) (cH ([]:(List Int)) a6.log0 rfl rfl rfl rfl rfl rfl rfl rfl rfl ⟨none,0,rfl,SR.nil⟩ (by omega) (by omega)) rfl rfl (by rintro _ _ ha ⟨ez,g7,rfl,f6,_,hwr⟩;exact bR rfl rfl (Wr.did hwr)) (⟨.inl rfl,⟨.inl rfl,⟨.inl rfl,⟨.inr ⟨trivial,trivial⟩,⟨.inr trivial,⟨.inr a0b,⟨.inr trivial,trivial⟩⟩⟩⟩⟩⟩⟩) ?_)));rintro _ hV ha ⟨ez,g7,rfl,f6,b3,_⟩ hM hg;replace b3:=HS.lg b3 a6 hg;generalize ({hV with log:=hM}:Heap)=iz at b3⊢;have b3:HS _ _ _ [_,_,ha] _:=b3;let he:Fp:=[(b1,.cells [(iI c.params),(iI c.regs),(.slice ar c.blocks.length aw)] none false)]
 refine fa (.slice a9 (List.replicate c.blocks.length ([]:(List Int))).length k9) rfl rfl rfl (fa (.slice ez (List.replicate c.blocks.length ([]:(List Int))).length g7) rfl rfl rfl (bJ (aj 3 rfl (wT 2 [] 1 0 [6] [(6,(.bool true))] rfl fun _=>ak (fun(mm:Nat) f H'=> ∃(mo:Bool) (I1:List (List Int)) (O1:List (List Int)) (a0:Option Addr) (a2:Nat) (b2:Fp) (a1:Option Addr) (a3:Nat) (bb:Fp) (F':Fz),Fz.le F5 F'/\HS (Base.of H []) F' H' [he,b2,bb] R/\OS F' (.slice a0 I1.length a2) I1 b2/\OS F' (.slice a1 O1.length a3) O1 bb/\aD f [(1,(.pointer (some ⟨b1,0,none⟩))),(4,(.slice a0 I1.length a2)),(5,(.slice a1 O1.length a3)),(6,(.bool mo))]/\mm=mea mo (c.blocks.length*6000) (cnt2 I1 O1)/\(RSn c I1 O1)/\(mo=false->∀b,b<c.blocks.length->CL c I1 O1 b)) _ ⟨true,List.replicate c.blocks.length ([]:(List Int)),List.replicate c.blocks.length ([]:(List Int)),a9,k9,p9,ez,g7,ha,_,fR,b3,hp,f6,⟨rfl,rfl,rfl,rfl,trivial⟩,rfl,(rsn_zero rfl),(by intro h;cases h)⟩ ?_))));rintro kl lv k5 ⟨mo,I1,O1,a0,a2,b2,a1,a3,bb,hR,c3,ds,c6,b0,f3,rfl,et,cl⟩ hF;refine au _ f3 (fun _=>?_);clear f3;replace hT:=hT.mono c3;replace U:=U.mono c3;have jc:=et.li;have jw:=et.lo;refine aj 2 rfl (wT 1 [] 23 23 [] [(23,(.bool mo))] rfl fun _=>az 3 5 (v:=mo) rfl rfl rfl rfl (fun c8=>?_) (fun c8=>?_))
 ·have ea:=c8;try simp only[BS]at ea
  have hmo:=ea;refine wT 2 [] 1 0 [6] [(6,(.bool false))] rfl fun _=>wR 2 [(1,.o (.slice ar c.blocks.length aw))] 24 27 [7] [(7,(iI ((c.blocks.length:Int)-1)))] (vA (ql 22 2 (HS.hc ds (i:=0) rfl) rfl rfl) (vA (vi (n:=(c.blocks.length:Int)-1) (by omega)) trivial)) rfl fun _=>ak (fun(mm:Nat) f H'=> ∃(bz:Int) (m2:Bool) (Z:List (List Int)) (O2:List (List Int)) (N:Option Addr) (T:Nat) (a4:Fp) (A:Option Addr) (J:Nat) (a5:Fp) (F':Fz),Fz.le hR F'/\HS (Base.of H []) F' H' [he,a4,a5] R/\OS F' (.slice N Z.length T) Z a4/\OS F' (.slice A O2.length J) O2 a5/\aD f [(1,(.pointer (some ⟨b1,0,none⟩))),(4,(.slice N Z.length T)),(5,(.slice A O2.length J)),(6,(.bool m2)),(7,(iI bz))]/\mm=(bz+1).toNat/\(RSn c Z O2)/\(-1<=bz/\bz<(c.blocks.length:Int))/\(m2=false->Z=I1/\O2=O1)/\(m2=true->cnt2 I1 O1<cnt2 Z O2)/\(m2=false->∀b:Nat,bz<(b:Int)->b<c.blocks.length->CL c Z O2 b)) _ ⟨(c.blocks.length:Int)-1,false,I1,O1,a0,a2,b2,a1,a3,bb,_,fR,ds,c6,b0,⟨rfl,rfl,rfl,rfl,rfl,trivial⟩,rfl,(et),(by omega),(fun _=>⟨rfl,rfl⟩),(by intro h;cases h),(by intro _ b h1 h2;omega)⟩ ?_
  rintro kn lw k6 ⟨bz,m2,Z,O2,N,T,a4,A,J,a5,kr,c4,b4,E,V,f4,rfl,bk,hbz,hY,hn,hcl⟩ hG;refine au _ f4 (fun _=>?_);clear f4;replace hT:=hT.mono c4;replace U:=U.mono c4;have jq:=bk.li;have kc:=bk.lo;refine aj 2 rfl (wT 1 [] 28 29 [] [(29,(.bool (decide ((0:Int)<=bz))))] rfl fun _=>az 4 5 (v:=(decide ((0:Int)<=bz))) rfl rfl rfl rfl (fun c9=>?_) (fun c9=>?_))
  ·have e2:=c9;try simp only[BS]at e2
   have hbn:bz.toNat<c.blocks.length:=by omega
   have hbl:=hins bz.toNat;refine wT 2 [] 1 0 [8] [(8,(.slice none 0 0))] rfl fun _=>aa ?_
   obtain⟨e6,f9⟩:=Sv.view (SR.sv U b4);obtain⟨h5,h6,h7,h8,hj⟩:=BlkT.fx (f9 bz.toNat);let hw:Value:=(.agg ⟨[(.slice (cA (e6 bz.toNat) 0) (c.blocks.getD bz.toNat default).ins.length (cK (e6 bz.toNat) 0)),(iI (c.blocks.getD bz.toNat default).fin),(iI (c.blocks.getD bz.toNat default).reg),(iI (c.blocks.getD bz.toNat default).tgt),(iI (c.blocks.getD bz.toNat default).els)]⟩)
   refine wRo 5 0 [(1,.o (.slice ar c.blocks.length aw)),(4,.o hw)] 32 36 [] [(36,hw)] (vA (ql 22 2 (HS.hc b4 (i:=0) rfl) rfl rfl) (vA (Sv.ix (j:=bz) (SR.sv U b4) (by omega) (by omega)) (vA (qn 48 0 5 (BlkT.vw (f9 bz.toNat) (by omega)) rfl rfl rfl rfl) trivial))) rfl fun _=>aA (am rfl rfl rfl) rfl rfl (ma.rsucc_c ex (c.blocks.getD bz.toNat default) (HS.call b4) hj (by omega) (by omega) (by omega) (by omega) hT) ?_
   rintro _ k7 ⟨e0,g8,lB,hl,cc,dt,rfl,b9,rfl⟩;replace dt:HS _ _ _ [_,a4,a5] _:=HS.back b4 rfl dt;refine wa (.slice e0 (aZ (c.blocks.getD bz.toNat default)).length g8) rfl rfl rfl (ae 3 rfl (wT 2 [] 1 0 [10] [(10,(iI 0))] rfl fun _=>ak (fun(mm:Nat) f H'=> ∃(o:List Int) (q:Nat) (ag:Option Addr) (al:Nat) (F':Fz),Fz.le hl F'/\HS (Base.of H []) F' H' [he,a4,a5] R/\SR F' (.slice ag o.length al) o/\aD f [(1,(.pointer (some ⟨b1,0,none⟩))),(4,(.slice N Z.length T)),(5,(.slice A O2.length J)),(6,(.bool m2)),(7,(iI bz)),(8,(.slice ag o.length al)),(9,(.slice e0 (aZ (c.blocks.getD bz.toNat default)).length g8)),(10,(iI (q:Int)))]/\mm=(aZ (c.blocks.getD bz.toNat default)).length-q/\(Lst o (uS c Z bz.toNat q))/\(q<=(aZ (c.blocks.getD bz.toNat default)).length)) _ ⟨([]:List Int),0,none,0,_,fR,dt,(SR.nil:SR hl (.slice none 0 0) ([]:List Int)),⟨rfl,rfl,rfl,rfl,rfl,rfl,rfl,rfl,trivial⟩,rfl,(uS_zero),(by omega)⟩ ?_));rintro ko lz k8 ⟨o,q,ag,al,kt,bl,ad,a8,f5,rfl,ho,hq⟩ hH;refine au _ f5 (fun _=>?_);clear f5;replace hT:=(hT.mono cc).mono bl;replace U:=(U.mono cc).mono bl;replace b9:=b9.mono bl;replace E:=(E.mono cc).mono bl;replace V:=(V.mono cc).mono bl;have ki:=succ_len (b:=(c.blocks.getD bz.toNat default));refine aj 2 rfl (wT 1 [] 38 41 [] [(41,(.bool (decide ((q:Int)<((aZ (c.blocks.getD bz.toNat default)).length:Int)))))] rfl fun _=>az 3 5 (v:=(decide ((q:Int)<((aZ (c.blocks.getD bz.toNat default)).length:Int)))) rfl rfl rfl rfl (fun dd=>?_) (fun dd=>?_))
   ·have e3:=dd;try simp only[BS]at e3
    have hmem:=gv (l:=aZ (c.blocks.getD bz.toNat default)) (q:=q) (by omega);have hst:=vF.succ bz.toNat hbn _ hmem;have hul:=Lst.len ho hrg.1 (fun r h=>uS_lt vF bk h);have hil:((Z.getD ((aZ (c.blocks.getD bz.toNat default)).getD q 0).toNat default).length:Int)<=c.regs:=(rsn_len vF bk ((aZ (c.blocks.getD bz.toNat default)).getD q 0).toNat).1;refine aa ?_;obtain⟨i2,go⟩:=Sv.view (SR.sv b9 ad);have lA:=fI (go q);obtain⟨co,g2⟩:=Sv.view (OS.sv E ad (i:=1) rfl);have h3:=fL (g2 ((aZ (c.blocks.getD bz.toNat default)).getD q 0).toNat);refine wRo 8 0 [(5,.o (iI ((aZ (c.blocks.getD bz.toNat default)).getD q 0))),(7,.o (.slice (cA (co ((aZ (c.blocks.getD bz.toNat default)).getD q 0).toNat) 0) (Z.getD ((aZ (c.blocks.getD bz.toNat default)).getD q 0).toNat default).length (cK (co ((aZ (c.blocks.getD bz.toNat default)).getD q 0).toNat) 0)))] 44 51 [] [(44,(.slice ag o.length al)),(51,(.slice (cA (co ((aZ (c.blocks.getD bz.toNat default)).getD q 0).toNat) 0) (Z.getD ((aZ (c.blocks.getD bz.toNat default)).getD q 0).toNat default).length (cK (co ((aZ (c.blocks.getD bz.toNat default)).getD q 0).toNat) 0)))] (vA (Sv.ix (j:=(q:Int)) (SR.sv b9 ad) (by omega) (by omega)) (vA (ql 3 0 (vI (go q) (by omega)) rfl rfl) (vA (Sv.ix (j:=((aZ (c.blocks.getD bz.toNat default)).getD q 0)) (OS.sv E ad (i:=1) rfl) (by omega) (by omega)) (vA (ql 25 0 (vL (g2 ((aZ (c.blocks.getD bz.toNat default)).getD q 0).toNat) (by omega)) rfl rfl) trivial)))) rfl fun _=>aA (am rfl rfl rfl) rfl rfl (ma.eE ex o (Z.getD ((aZ (c.blocks.getD bz.toNat default)).getD q 0).toNat default) (HS.call ad) a8 h3 hT (by omega)) ?_
    rintro _ la ⟨e1,g9,lC,kz,hC,dv,rfl,hh,rfl⟩;replace dv:HS _ _ _ [_,_,_] _:=HS.back ad rfl dv;refine wa (.slice e1 (cF o (Z.getD ((aZ (c.blocks.getD bz.toNat default)).getD q 0).toNat default)).length g9) rfl rfl rfl (ae 2 rfl (wU 1 [] 42 43 [10] [(10,(iI ((q:Int)+1)))] (vi (n:=(q:Int)+1) (by omega)) rfl fun _=>hH _ _ _ ?_ ⟨cF o (Z.getD ((aZ (c.blocks.getD bz.toNat default)).getD q 0).toNat default),q+1,e1,g9,_,(fT (bl) hC),dv,hh,⟨rfl,rfl,rfl,rfl,rfl,rfl,rfl,rfl,trivial⟩,rfl,(uS_step bk (show q<(aZ (c.blocks.getD bz.toNat default)).length by omega) ho),(by omega)⟩));omega
   have e3:=dd;try simp only[BS]at e3
   refine aa ?_;obtain⟨fd,g3⟩:=Sv.view (SR.sv U ad);obtain⟨h9,ib,ih,ik,hk⟩:=BlkT.fx (g3 bz.toNat);let hz:Value:=(.agg ⟨[(.slice (cA (fd bz.toNat) 0) (c.blocks.getD bz.toNat default).ins.length (cK (fd bz.toNat) 0)),(iI (c.blocks.getD bz.toNat default).fin),(iI (c.blocks.getD bz.toNat default).reg),(iI (c.blocks.getD bz.toNat default).tgt),(iI (c.blocks.getD bz.toNat default).els)]⟩)
   refine wRo 6 0 [(1,.o (.slice ar c.blocks.length aw)),(4,.o hz)] 53 58 [] [(57,hz),(58,(.slice ag o.length al))] (vA (ql 22 2 (HS.hc ad (i:=0) rfl) rfl rfl) (vA (Sv.ix (j:=bz) (SR.sv U ad) (by omega) (by omega)) (vA (qn 48 0 5 (BlkT.vw (g3 bz.toNat) (by omega)) rfl rfl rfl rfl) trivial))) rfl fun _=>aA (am rfl rfl rfl) rfl rfl (mh.rpoints_c ex (c.blocks.getD bz.toNat default) o (HS.call ad) hk (by omega) (by omega) (by omega) (by omega) a8 hT (⟨_,rpo_of vF bk hbn hbl ho⟩)) ?_
   rintro _ lf ⟨i1,kk,b5,h0,k0,c5,av,rfl,es,i3⟩;replace av:HS _ _ _ [_,_,_,h0] _:=HS.back ad rfl av;replace E:=E.mono c5;replace V:=V.mono c5;replace a8:=a8.mono c5;obtain⟨a7,g4⟩:=Sv.view (OS.sv es av (i:=3) rfl);have h4:=fL (g4 0);refine wRo 3 7 [(8,.o (.slice (cA (a7 0) 0) (b5.getD 0 default).length (cK (a7 0) 0)))] 60 61 [11] [(11,(.slice (cA (a7 0) 0) (b5.getD 0 default).length (cK (a7 0) 0)))] (vA (Sv.ix (j:=0) (OS.sv es av (i:=3) rfl) (by decide) (by(have hq:=RpF.len (by assumption);omega))) (vA (ql 25 0 (vL (g4 0) (by(have hq:=RpF.len (by assumption);omega))) rfl rfl) trivial)) rfl fun _=>ae 2 rfl ?_
   obtain⟨fi,g5⟩:=Sv.view (OS.sv V av (i:=2) rfl);have lD:=fL (g5 bz.toNat);obtain⟨f0,g6⟩:=Sv.view (OS.sv E av (i:=1) rfl);have lE:=fL (g6 bz.toNat);refine wR 1 [(7,.o (.slice (cA (fi bz.toNat) 0) (O2.getD bz.toNat default).length (cK (fi bz.toNat) 0))),(17,.o (.slice (cA (f0 bz.toNat) 0) (Z.getD bz.toNat default).length (cK (f0 bz.toNat) 0)))] 62 82 [6] [(6,(.bool ((m2||((o.length:Int) !=((O2.getD bz.toNat default).length:Int)))||(((b5.getD 0 default).length:Int) !=((Z.getD bz.toNat default).length:Int)))))] (vA (fun(g1:m2=false)=>(Sv.ix (j:=bz) (OS.sv V av (i:=2) rfl) (by(try simp only[BS]at g1);(first|(dsimp only;omega)|omega|(have hq:=RpF.len (by assumption);dsimp only at hq⊢;omega)|(have hq:=RpF.len (by assumption);omega))) (by(try simp only[BS]at g1);(first|(dsimp only;omega)|omega|(have hq:=RpF.len (by assumption);dsimp only at hq⊢;omega)|(have hq:=RpF.len (by assumption);omega))))) (vA (fun(g1:m2=false)=>(ql 25 0 (vL (g5 bz.toNat) (by(try simp only[BS]at g1);(first|(dsimp only;omega)|omega|(have hq:=RpF.len (by assumption);dsimp only at hq⊢;omega)|(have hq:=RpF.len (by assumption);omega)))) rfl rfl)) (vA (fun(g1:(m2||((o.length:Int) !=((O2.getD bz.toNat default).length:Int)))=false)=>(Sv.ix (j:=bz) (OS.sv E av (i:=1) rfl) (by(try simp only[BS]at g1);(first|(dsimp only;omega)|omega|(have hq:=RpF.len (by assumption);dsimp only at hq⊢;omega)|(have hq:=RpF.len (by assumption);omega))) (by(try simp only[BS]at g1);(first|(dsimp only;omega)|omega|(have hq:=RpF.len (by assumption);dsimp only at hq⊢;omega)|(have hq:=RpF.len (by assumption);omega))))) (vA (fun(g1:(m2||((o.length:Int) !=((O2.getD bz.toNat default).length:Int)))=false)=>(ql 25 0 (vL (g6 bz.toNat) (by(try simp only[BS]at g1);(first|(dsimp only;omega)|omega|(have hq:=RpF.len (by assumption);dsimp only at hq⊢;omega)|(have hq:=RpF.len (by assumption);omega)))) rfl rfl)) trivial)))) rfl fun _=>aa (wUo 7 0 [] 83 89 [] [(85,(.slice A O2.length J)),(86,(iI bz)),(87,(.slice (cA (a7 0) 0) (b5.getD 0 default).length (cK (a7 0) 0))),(88,(.slice ag o.length al)),(89,(.pointer (some ⟨sB (.slice N Z.length T),sO (.slice N Z.length T)+bz.toNat*Rp.sz (List Int),none⟩)))] (Sv.ix (j:=bz) (OS.sv E av (i:=1) rfl) (by omega) (by omega)) rfl fun _=>aT (cV (α:=(List Int)) (j:=bz.toNat) (off:=0) (q:=1) (b5.getD 0 default) E av rfl rfl rfl rfl rfl rfl rfl rfl (aL (x:=default) (by omega)) rfl (by rintro cs ⟨_,_,rfl,_⟩;exact⟨a06 rfl,⟨(cA (a7 0) 0),(cK (a7 0) 0),rfl,h4⟩⟩)) rfl ?_)
   rintro _ ll hr ⟨dk,(f8:HS _ _ _ [_,hr,_,_] _),_⟩;have il:=OS.len' dk;refine wUo 1 8 [] 90 90 [] [(90,(.pointer (some ⟨sB (.slice A O2.length J),sO (.slice A O2.length J)+bz.toNat*Rp.sz (List Int),none⟩)))] (Sv.ix (j:=bz) (OS.sv V f8 (i:=2) rfl) (by omega) (by omega)) rfl fun _=>aT (cV (α:=(List Int)) (j:=bz.toNat) (off:=0) (q:=2) o V f8 rfl rfl rfl rfl rfl rfl rfl rfl (aL (x:=default) (by omega)) rfl (by rintro cs ⟨_,_,rfl,_⟩;exact⟨a06 rfl,⟨ag,al,rfl,a8⟩⟩)) rfl ?_
   rintro _ lr ht ⟨dl,(hE:HS _ _ _ [_,_,ht,_] _),_⟩;have it:=OS.len' dl;refine ae 2 rfl (wU 1 [] 30 31 [7] [(7,(iI (bz-1)))] (vi (n:=bz-1) (by omega)) rfl fun _=>?_);have hst:=stp_of (I:=Z) (O:=O2) (show(aZ (c.blocks.getD bz.toNat default)).length<=q by omega) ho (by assumption);have hmv:=mv bk hbn hst hY hn rfl;refine hG _ _ _ ?_ ⟨bz-1,((m2||((o.length:Int) !=((O2.getD bz.toNat default).length:Int)))||(((b5.getD 0 default).length:Int) !=((Z.getD bz.toNat default).length:Int))),Z.set bz.toNat (b5.getD 0 default),O2.set bz.toNat o,N,T,hr,A,J,ht,_,(fT (fT (fT (c4) cc) bl) c5),(HS.sub hE (a03 _ _)),(OS.norm dk),(OS.norm dl),(agC rfl (agC (show Value.slice N Z.length T=Value.slice N (Z.set bz.toNat (b5.getD 0 default)).length T by rw[OS.len' dk]) (agC (show Value.slice A O2.length J=Value.slice A (O2.set bz.toNat o).length J by rw[OS.len' dl]) ⟨rfl,rfl,trivial⟩))),rfl,(rsn_set bk hbn hst),(by omega),(hmv.1),(hmv.2.1),(fun h b h1 h2=>hmv.2.2 h (fun hm b h1=>hcl hm b (by omega)) b (by omega) h2)⟩;omega
  have e2:=c9;try simp only[BS]at e2
  refine hF _ _ _ ?_ ⟨m2,Z,O2,N,T,a4,A,J,a5,_,(fT (c3) c4),b4,E,V,⟨rfl,rfl,rfl,rfl,trivial⟩,rfl,(bk),(fun h b hb=>hcl h b (by omega) hb)⟩;rw[hmo];exact mea_lt hn (cnt2_le vF bk)
 have ea:=c8;try simp only[BS]at ea
 refine wT 1 [] 2 3 [91,92] [(2,(.slice a0 I1.length a2)),(3,(.slice a1 O1.length a3))] rfl fun _=>?_
 obtain⟨k3,f1,d1,dn,kd⟩:=OS.frz c6 ds (i:=1) rfl;have d1:HS _ _ _ [_,[],bb] _:=d1;replace b0:=b0.mono f1;obtain⟨k4,f2,d2,hD,kg⟩:=OS.frz b0 d1 (i:=2) rfl;have d2:HS _ _ _ [_,_,[]] _:=d2;replace dn:=dn.mono f2;refine aq ⟨.inr rfl,_,rfl,a0,a2,I1,a1,a3,O1,_,(fT (fT (fT (em) c3) f1) f2),(HS.forget d2),rfl,dn,hD,(fun _=>bkf_of et (cl (by assumption))),(fun h=>absurd (hv.symm.trans h) (by decide))⟩
end Go.Proofs.YtknafdcgpaejlaaDoor.mi
