/-
Live registers: the reference solution of the equations. No condition but bounds on lengths.
-/
import Derived.Test.YtknafdcgpaejlaaDoorZMMH
noncomputable section
namespace Go.Proofs.YtknafdcgpaejlaaDoor.mi
open Go.R
set_option maxRecDepth 10000
set_option linter.unusedVariables false
set_option linter.unusedSimpArgs false
variable (ex:FuncId) {F:Fz} {H:Heap} {R:List Fp}
open m1 m2 m3 m4 m5 m6 ma ml mb mc md mf mg mh
abbrev cU(l:List (List Int))(b:Nat):List Int:=l.getD b default
structure RSn(c:VFnT)(I O:List (List Int)):Prop where
 li:I.length=c.blocks.length
 lo:O.length=c.blocks.length
 ai: ∀b,Asc (cU I b)
 ao: ∀b,Asc (cU O b)
 si: ∀b,∀x∈cU I b,0<=x/\LIn c b x.toNat
 so: ∀b,∀x∈cU O b,0<=x/\kw c b x.toNat
 mo: ∀b,b<c.blocks.length->∀r,oS (cU O b) r->outS c (fun t r=>oS (cU I t) r) b r
 mi: ∀b,b<c.blocks.length->∀r,oS (cU I b) r->inS (aW c b) (oS (cU O b)) r
theorem rsn_zero{c:VFnT}{n:Nat}(h:n=c.blocks.length):RSn c (List.replicate n []) (List.replicate n []):=by
 have e: ∀b,cU (List.replicate n ([]:List Int)) b=[]:=fun b=>by unfold cU;rw[a02,a10];split<;>rfl
 have E: ∀b r,¬oS (cU (List.replicate n ([]:List Int)) b) r:=fun b r h=>by rw[e]at h;cases h
 exact⟨by simp[h],by simp[h],fun b=>by rw[e];exact List.Pairwise.nil,fun b=>by rw[e];exact List.Pairwise.nil,fun b x A=>by(rw[e]at A;cases A),fun b x A=>by(rw[e]at A;cases A),fun b _ r h=>absurd h (E b r),fun b _ r h=>absurd h (E b r)⟩
theorem cH{l:List (List Int)}{b A:Nat}{x:List Int}(E:b<l.length):cU (l.set b x) A=if b=A then x else cU l A:=by
 unfold cU;rw[cg];by_cases h:b=A
 ·subst h;rw[if_pos ⟨rfl,E⟩,if_pos rfl]
 rw[if_neg (fun e=>h e.1),if_neg h]
theorem lu: ∀{b a:List Int},Asc a->Asc b->(∀x∈a,x∈b)->a.Sublist b
 | [],[],_,_,_=>List.Sublist.refl _
 | [],x::a,_,_,h=>absurd (h x (a0y ..)) a0c
 |y::b,[],_,_,_=>List.nil_sublist _
 |y::b,x::a,ha,hb,h=>by
  have E:=a1C.1 ha;have N:=a1C.1 hb;by_cases e:x=y
  ·subst e;refine List.Sublist.cons_cons _ (lu E.2 N.2 fun z T=>?_);rcases a0s.1 (h z (a0j _ T)) with e|e
   ·subst e;have:=E.1 z T;omega
   exact e
  have U:x∈b:=by
   rcases a0s.1 (h x (a0y ..)) with e'|e'
   ·exact absurd e' e
   exact e'
  have V:=N.1 x U;refine List.Sublist.cons _ (lu ha N.2 fun z T=>?_);rcases a0s.1 (h z T) with e'|e'
  ·rcases a0s.1 T with A|A
   ·exact absurd (A.symm.trans e') e
   have:=E.1 z A;omega
  exact e'
theorem ku{a b:List Int}(A:Asc a)(E:Asc b)(h: ∀x∈a,x∈b)(N:b.length=a.length):a=b:=(lu A E h).eq_of_length N.symm
theorem jD{a b:List Int}(A:Asc a)(E:Asc b)(h: ∀x∈a,x∈b):a.length<=b.length:=(lu A E h).length_le
theorem Lst.ext{l:List Int}{S S':Nat->Prop}(h:Lst l S)(hs: ∀r,S r↔S' r):Lst l S':=⟨h.asc,fun x=>by rw[h.mem,hs]⟩
def uS(c:VFnT)(I:List (List Int))(b q r:Nat):Prop:= ∃t∈(bh (aW c b)).take q,oS (cU I t.toNat) r
theorem uS_zero{c:VFnT}{I:List (List Int)}{b:Nat}:Lst [] (uS c I b 0):=Lst.nil fun r ⟨t,h,_⟩=>by simp at h
theorem RSn.lstI{c:VFnT}{I O:List (List Int)}(h:RSn c I O)(b:Nat):Lst (cU I b) (oS (cU I b)):=⟨h.ai b,fun x=>⟨fun E=>⟨(h.si b x E).1,by unfold oS;rwa [a17 (h.si b x E).1]⟩,fun E=>by have A:=E.2;unfold oS at A;rwa [a17 E.1]at A⟩⟩
theorem uS_step{c:VFnT}{I O:List (List Int)}{b q:Nat}{o:List Int}(hs:RSn c I O)(N:q<(bh (aW c b)).length)(h:Lst o (uS c I b q)):Lst (cJ o (cU I ((bh (aW c b)).getD q 0).toNat)) (uS c I b (q+1)):=by
 refine Lst.ext (Lst.union h (hs.lstI _)) fun r=>?_
 unfold uS;rw[aY N (d:=0)];constructor
 ·rintro(⟨t,A,E⟩|A)
  ·exact⟨t,a07.2 (.inl A),E⟩
  exact⟨_,a07.2 (.inr (a0h.2 rfl)),A⟩
 rintro⟨t,A,E⟩;rcases a07.1 A with A|A
 ·exact .inl ⟨t,A,E⟩
 rw[a0h]at A;subst A;exact .inr E
theorem uS_all{c:VFnT}{I:List (List Int)}{b q r:Nat}(A:(bh (aW c b)).length<=q):uS c I b q r↔outS c (fun t r=>oS (cU I t) r) b r:=by unfold uS outS;rw[a0g A]
theorem uS_in{c:VFnT}{I O:List (List Int)}{b q r:Nat}(hs:RSn c I O)(h:uS c I b q r):kw c b r:=by obtain⟨t,A,E⟩:=h;refine⟨t,a0Q A,?_⟩;have:=hs.si _ _ E;exact this.2
theorem uS_lt{c:VFnT}(v:VF c){I O:List (List Int)}{b q r:Nat}(hs:RSn c I O)(h:uS c I b q r):(r:Int)<c.regs:=gU v (uS_in hs h)
theorem rpo_of{c:VFnT}(v:VF c){I O:List (List Int)}{b q:Nat}{o:List Int}(hs:RSn c I O)(T:b<c.blocks.length)(Z:(aW c b).ins.length<=1073741824)(U:Lst o (uS c I b q)):RpO (aW c b) o c.regs:=by
 refine⟨v.regs,Z,fun i hi=>bu (v.ins b T i hi),fun x N=>?_,U.asc,fun x N=>?_⟩
 ·unfold dr at N;split at N
  ·rename_i V;rw[a0h]at N;have:=v.fin b T V;omega
  cases N
 have A:=(U.mem x).1 N;have E:=uS_lt v hs A.2;omega
theorem rpo_out{c:VFnT}(v:VF c){b:Nat}{o:List Int}(T:b<c.blocks.length)(Z:(aW c b).ins.length<=1073741824)(U:Lst o (kw c b)):RpO (aW c b) o c.regs:=by
 refine⟨v.regs,Z,fun i hi=>bu (v.ins b T i hi),fun x N=>?_,U.asc,fun x N=>?_⟩
 ·unfold dr at N;split at N
  ·rename_i V;rw[a0h]at N;have:=v.fin b T V;omega
  cases N
 have A:=(U.mem x).1 N;have E:=gU v A.2;omega
theorem jj{l:List Int}{S:Nat->Prop}(h:Lst l S)(r:Nat):oS l r↔S r:=by unfold oS;rw[h.mem];exact⟨fun h=>by simpa using h.2,fun h=>⟨by omega,by simpa using h⟩⟩
structure Stp(c:VFnT)(I O:List (List Int))(b:Nat)(o i:List Int):Prop where
 lo:Lst o (outS c (fun t r=>oS (cU I t) r) b)
 li:Lst i (inS (aW c b) (oS o))
theorem stp_of{c:VFnT}{I O:List (List Int)}{b q:Nat}{o:List Int}{l:List (List Int)}(N:(bh (aW c b)).length<=q)(E:Lst o (uS c I b q))(A:RpF (aW c b) o l):Stp c I O b o (cU l 0):=
 ⟨Lst.ext E fun r=>uS_all N,Lst.ext (A.pt 0 (a0p _)) fun r=>Iff.rfl⟩
theorem stp_sub{c:VFnT}{I O:List (List Int)}{b:Nat}{o i:List Int}(h:RSn c I O)(T:b<c.blocks.length)(s:Stp c I O b o i):(∀x∈cU O b,x∈o)/\(∀x∈cU I b,x∈i):=by
 have E: ∀r,oS (cU O b) r->oS o r:=fun r U=>(jj s.lo r).2 (h.mo b T r U)
 refine⟨fun x N=>?_,fun x N=>?_⟩
 ·have A:=(h.so b x N).1;have:=E x.toNat (by unfold oS;rwa [a17 A]);unfold oS at this;rwa [a17 A]at this
 have A:=(h.si b x N).1;have:=h.mi b T x.toNat (by unfold oS;rwa [a17 A]);exact(s.li.mem x).2 ⟨A,eN E _ this⟩
theorem rsn_set{c:VFnT}{I O:List (List Int)}{b:Nat}{o i:List Int}(h:RSn c I O)(hb:b<c.blocks.length)(s:Stp c I O b o i):RSn c (I.set b i) (O.set b o):=by
 obtain⟨so,si⟩:=stp_sub h hb s;have ag:b<I.length:=by rw[h.li];exact hb
 have al:b<O.length:=by rw[h.lo];exact hb
 have mI: ∀t r,oS (cU I t) r->oS (cU (I.set b i) t) r:=fun t r V=>by
  rw[cH ag];split
  ·rename_i e;subst e;exact si _ V
  exact V
 refine⟨by rw[a0b];exact h.li,by rw[a0b];exact h.lo,fun Z=>?_,fun Z=>?_,fun Z x hx=>?_,fun Z x hx=>?_,fun Z an r V=>?_,fun Z an r V=>?_⟩
 ·rw[cH ag];split
  ·exact s.li.asc
  exact h.ai Z
 ·rw[cH al];split
  ·exact s.lo.asc
  exact h.ao Z
 ·rw[cH ag]at hx;split at hx
  ·rename_i e;subst e;obtain⟨A,U⟩:=(s.li.mem x).1 hx;refine⟨A,lJ c b hb _ (eN (fun r V=>?_) _ U)⟩;obtain⟨t,E,N⟩:=(jj s.lo r).1 V;have T:=h.si _ _ N;exact⟨t,E,T.2⟩
  exact h.si Z x hx
 ·rw[cH al]at hx;split at hx
  ·rename_i e;subst e;obtain⟨A,t,E,N⟩:=(s.lo.mem x).1 hx;have T:=h.si _ _ N;exact⟨A,t,E,T.2⟩
  exact h.so Z x hx
 ·rw[cH al]at V;split at V
  ·rename_i e;subst e;exact gq (fun t r=>mI t r) _ _ ((jj s.lo r).1 V)
  exact gq (fun t r=>mI t r) _ _ (h.mo Z an r V)
 rw[cH ag]at V;rw[cH al];split at V
 ·rename_i e;subst e;rw[if_pos rfl];exact(jj s.li r).1 V
 rename_i e;rw[if_neg e];exact h.mi Z an r V
def cntL(I:List (List Int)):Nat:=(I.map List.length).sum
theorem cntL_set{I:List (List Int)}{b:Nat}(A:b<I.length)(s:List Int):cntL (I.set b s)+(cU I b).length=cntL I+s.length:=by unfold cntL cU;rw[List.map_set];have:=sum_set (I.map List.length) b s.length (by rw[a1p];exact A);rw[a02,a1f,a06 A]at this;rw[a02,a06 A];exact this
theorem cntL_le{l:List (List Int)}{B:Nat}(h: ∀b,(cU l b).length<=B):cntL l<=l.length*B:=by
 unfold cntL;have N: ∀(l:List (List Int)),(∀s∈l,s.length<=B)->(l.map List.length).sum<=l.length*B:=by
  intro l;induction l with
  |nil=>intro _;simp
  |cons s l ih=>
   intro h
   have A:=ih fun x U=>h x (a0j _ U)
   have E:=h s (a0y ..)
   rw[List.map_cons,List.sum_cons,a09,a1i];omega
 refine N l fun s hs=>?_
 obtain⟨b,T,rfl⟩:=a0E.1 hs;have:=h b;unfold cU at this;rwa [a02,a06 T]at this
def cnt2(I O:List (List Int)):Nat:=cntL I+cntL O
theorem rsn_len{c:VFnT}(v:VF c){I O:List (List Int)}(h:RSn c I O)(b:Nat):((cU I b).length:Int)<=c.regs/\((cU O b).length:Int)<=c.regs:=by
 have T:=v.regs;constructor
 ·have:=jE (m:=c.regs) 0 T.1 (h.ai b) fun x N=>by obtain⟨A,E⟩:=h.si b x N;have:=lin_lt v E;exact⟨A,by omega⟩
  omega
 have:=jE (m:=c.regs) 0 T.1 (h.ao b) fun x N=>by obtain⟨A,E⟩:=h.so b x N;have:=gU v E;exact⟨A,by omega⟩
 omega
theorem cnt2_le{c:VFnT}(v:VF c){I O:List (List Int)}(h:RSn c I O):cnt2 I O<=c.blocks.length*6000:=by
 have N:=v.regs;have A:=cntL_le (l:=I) (B:=3000) fun b=>by have:=(rsn_len v h b).1;omega
 have E:=cntL_le (l:=O) (B:=3000) fun b=>by have:=(rsn_len v h b).2;omega
 rw[h.li]at A;rw[h.lo]at E;unfold cnt2;omega
def CL(c:VFnT)(I O:List (List Int))(b:Nat):Prop:=(∀r,outS c (fun t r=>oS (cU I t) r) b r->oS (cU O b) r)/\∀r,inS (aW c b) (oS (cU O b)) r->oS (cU I b) r
theorem stp_same{c:VFnT}{I O:List (List Int)}{b:Nat}{o i:List Int}(h:RSn c I O)(V:b<c.blocks.length)(s:Stp c I O b o i)(N:(o.length:Int)=((cU O b).length:Int))(T:(i.length:Int)=((cU I b).length:Int)):I.set b i=I/\O.set b o=O/\CL c I O b:=by
 obtain⟨so,Z⟩:=stp_sub h V s;have A:=ku (h.ao b) s.lo.asc so (by omega);have E:=ku (h.ai b) s.li.asc Z (by omega);refine⟨by rw[←E];exact eh _ _,by rw[←A];exact eh _ _,fun r U=>?_,fun r U=>?_⟩
 ·rw[A];exact(jj s.lo r).2 U
 rw[A]at U;rw[E];exact(jj s.li r).2 U
theorem stp_more{c:VFnT}{I O:List (List Int)}{b:Nat}{o i:List Int}(h:RSn c I O)(U:b<c.blocks.length)(s:Stp c I O b o i):cnt2 I O<=cnt2 (I.set b i) (O.set b o)/\(((o.length:Int)≠((cU O b).length:Int)\/(i.length:Int)≠((cU I b).length:Int))->cnt2 I O<cnt2 (I.set b i) (O.set b o)):=by obtain⟨Z,V⟩:=stp_sub h U s;have A:=jD (h.ao b) s.lo.asc Z;have E:=jD (h.ai b) s.li.asc V;have N:=cntL_set (I:=I) (b:=b) (by rw[h.li];exact U) i;have T:=cntL_set (I:=O) (b:=b) (by rw[h.lo];exact U) o;unfold cnt2;exact⟨by omega,fun h=>by omega⟩
theorem mv{c:VFnT}{I O A E:List (List Int)}{b:Nat}{o i:List Int}{m2 m':Bool}(h:RSn c I O)(hb:b<c.blocks.length)(s:Stp c I O b o i)(h0:m2=false->I=A/\O=E)(U:m2=true->cnt2 A E<cnt2 I O)
  (e:m'=((m2||((o.length:Int) !=((O.getD b default).length:Int)))||((i.length:Int) !=((I.getD b default).length:Int)))):(m'=false->I.set b i=A/\O.set b o=E)/\(m'=true->cnt2 A E<cnt2 (I.set b i) (O.set b o))/\(m'=false->(m2=false->∀b':Nat,b<b'->b'<c.blocks.length->CL c I O b')->∀b':Nat,b<=b'->b'<c.blocks.length->CL c (I.set b i) (O.set b o) b'):=by
 have hm:=stp_more h hb s
 have an:m'=false->m2=false/\(o.length:Int)=((cU O b).length:Int)/\(i.length:Int)=((cU I b).length:Int):=fun hf=>by rw[e]at hf;simp only[Bool.or_eq_false_iff,bne_eq_false_iff_eq]at hf;exact⟨hf.1.1,hf.1.2,hf.2⟩
 refine⟨fun hf=>?_,fun ht=>?_,fun hf hc b' h2 h3=>?_⟩
 ·obtain⟨k1,k2,V⟩:=an hf;obtain⟨N,T,_⟩:=stp_same h hb s k2 V;rw[N,T];exact h0 k1
 ·rw[e]at ht;simp only[a0M,bne_iff_ne]at ht;rcases ht with(ht|ht)|ht
  ·have:=U ht;omega
  ·have:=hm.2 (.inl ht);cases m2 with
   |false=>obtain⟨rfl,rfl⟩:=h0 rfl;exact this
   |true=>have:=U rfl;omega
  have:=hm.2 (.inr ht);cases m2 with
  |false=>obtain⟨rfl,rfl⟩:=h0 rfl;exact this
  |true=>have:=U rfl;omega
 obtain⟨k1,k2,V⟩:=an hf
 obtain⟨N,T,Z⟩:=stp_same h hb s k2 V
 rw[N,T]
 rcases a1T h2 with e'|e'
 ·subst e';exact Z
 exact hc k1 b' e' h3
theorem bkf_of{c:VFnT}{I O:List (List Int)}(h:RSn c I O)(hc: ∀b,b<c.blocks.length->CL c I O b):BkF c I O:=by
 have U:Clo c (fun b r=>oS (cU I b) r):=fun b T r hr=>(hc b T).2 r (eN (fun q Z=>(hc b T).1 q Z) r hr)
 refine⟨h.li,h.lo,fun b T=>⟨h.ai b,fun x=>⟨h.si b x,fun V=>?_⟩⟩,fun b T=>⟨h.ao b,fun x=>⟨h.so b x,fun V=>?_⟩⟩⟩
 ·have:=V.2 _ U;unfold oS at this;rwa [a17 V.1]at this
 obtain⟨A,t,E,N⟩:=V;have:=(hc b T).1 x.toNat ⟨t,E,N _ U⟩;unfold oS at this;rwa [a17 A]at this
theorem ptf_of{c:VFnT}{b:Nat}{o:List Int}{l:List (List Int)}(E:Lst o (kw c b))(h:RpF (aW c b) o l):PtF c b l:=by
 refine⟨h.len,fun i hi=>Lst.ext (h.pt i hi) fun r=>?_⟩;unfold rpS ptS;have e: ∀r,oS o r↔kw c b r:=jj E;constructor
 ·exact kI (fun q A=>A.imp (e q).1 id) _ r
 exact kI (fun q A=>A.imp (e q).2 id) _ r
set_option maxHeartbeats 2000000 in
theorem rblocks_c{a5:Option Addr}{a7:Nat}(c:VFnT)(hs:HS (.of H []) F H [] R)(it:in64 c.params)(iv:in64 c.regs)(V:SR F (sL a5 c.blocks.length a7) c.blocks)(hT:TB 37 tabC F)(hl: ∀j,(c.blocks.getD j default).ins.length<=1073741824):kKt ex 32 [(aG [(iI c.params),(iI c.regs),(sL a5 c.blocks.length a7)])] H fun v H'=> ∃(ax:Option Addr) (kx:Nat) (x:List (List Int)) (ay:Option Addr) (ky:Nat) (y:List (List Int)) (F':Fz),Fz.le F F'/\HS (.of H []) F' H' [] R/\v= .tuple ⟨[sL ax x.length kx,sL ay y.length ky]⟩/\SR F' (sL ax x.length kx) x/\SR F' (sL ay y.length ky) y/\(bY c=true->BkF c x y)/\(bY c=false->x=[]/\y=[]):=by
 refine aD Tryd.func32 rfl rfl (zf 1 (aa (aB (aU hs rfl rfl) rfl rfl ?_)));rintro _ H2 _ ⟨b1,rfl,(f0:HS _ _ _ [(fP b1 [(iI c.params),(iI c.regs),(sL a5 c.blocks.length a7)])] _),_⟩;let hh:Value:=(aG [(iI c.params),(iI c.regs),(sL a5 c.blocks.length a7)])
 refine wTo 2 1 [] 2 3 [] [(2,(sL none 0 0)),(3,(sL none 0 0))] rfl fun _=>au 3 rfl (aa (wUo 1 0 [(0,.o hh)] 12 12 [] [(12,hh)] (qn 24 0 3 (HS.hc f0 (i:=0) rfl) rfl rfl rfl rfl) rfl fun _=>zc (m3.fo ex c (HS.call f0) (by omega) (by omega) V hT (fun j=>a0d (hl j) (by omega))) ?_))
 rintro _ H5 ⟨r5,F5,d2,ci,rfl,rfl⟩;replace ci:HS _ _ _ [_] _:=HS.back f0 rfl ci;replace hT:=hT.mono d2;replace V:=V.mono d2;refine wTo 1 2 [] 14 14 [] [(14,(.bool (!(bY c))))] rfl fun _=>au 1 rfl (zi 1 2 (fun c7=>?_) fun c7=>?_)
 ·try simp only[BS]at c7
  have hv:=c7;refine wT 1 [] 2 3 [] [(2,(sL none 0 0)),(3,(sL none 0 0))] rfl fun _=>aj ⟨.inr rfl,_,rfl,none,0,([]:List (List Int)),none,0,([]:List (List Int)),_,(d2),(HS.forget ci),rfl,(SR.nil:SR F5 (sL none 0 0) ([]:List (List Int))),(SR.nil:SR F5 (sL none 0 0) ([]:List (List Int))),(fun h=>absurd (h.symm.trans hv) (by decide)),(fun _=>⟨rfl,rfl⟩)⟩
 try simp only[BS]at c7
 have hv:=c7;have vF:=fB hv;have mr:=vF.nb;have l1:=vF.regs;refine aI rfl (zp 2 (zl 2 (HS.hc ci.log0 (i:=0) rfl) (aJ (v:=(iI (c.blocks.length:Int))) (id:= .v) (fZ (α:=BlkT) rfl rfl (SR.sv V ci.log0)) rfl rfl (gZ rfl) (gQ _) (bC (id:= .x []) (bW ([]:(List Int)) ci.log0 rfl rfl rfl rfl rfl rfl rfl rfl rfl ⟨none,0,rfl,SR.nil⟩ (by omega) (by omega)) rfl rfl (by rintro _ _ p9 ⟨a9,k9,rfl,he,_,hwr⟩;exact bt rfl rfl (Wr.did hwr)) (kb rfl) ?_))));rintro _ hF p9 ⟨a9,k9,rfl,he,a6,_⟩ hB g4;replace a6:=HS.lg a6 ci g4;generalize ({hF with log:=hB}:Heap)=ib at a6⊢;have a6:HS _ _ _ [_,p9] _:=a6;refine wfv (v:=(pT b1 2)) (dO rfl rfl) (aJ (v:=(sL a5 c.blocks.length a7)) (id:= .l b1) (b8 (i:=2) rfl rfl (HS.hc a6.log0 (i:=0) rfl) rfl rfl) rfl rfl (bT rfl) (⟨.inl rfl,⟨.inr a0c,⟨.inr trivial,⟨.inr trivial,⟨.inr trivial,trivial⟩⟩⟩⟩⟩) (aJ (v:=(iI (c.blocks.length:Int))) (id:= .v) (fZ (α:=BlkT) rfl rfl (SR.sv V a6.log0)) rfl rfl (gZ rfl) (gQ _) (bC (id:= .x []) (bW ([]:(List Int)) a6.log0 rfl rfl rfl rfl rfl rfl rfl rfl rfl ⟨none,0,rfl,SR.nil⟩ (by omega) (by omega)) rfl rfl (by rintro _ _ g2 ⟨ea,f9,rfl,fi,_,hwr⟩;exact bt rfl rfl (Wr.did hwr)) (⟨.inl rfl,⟨.inl rfl,⟨.inl rfl,⟨.inr ⟨trivial,trivial⟩,⟨.inr trivial,⟨.inr a0c,⟨.inr trivial,trivial⟩⟩⟩⟩⟩⟩⟩) ?_)));rintro _ hG g2 ⟨ea,f9,rfl,fi,b4,_⟩ hC g5;replace b4:=HS.lg b4 a6 g5;generalize ({hG with log:=hC}:Heap)=ih at b4⊢;have b4:HS _ _ _ [_,_,g2] _:=b4;let g3:Fp:=(fP b1 [(iI c.params),(iI c.regs),(sL a5 c.blocks.length a7)])
 refine fa (sL a9 (List.replicate c.blocks.length ([]:(List Int))).length k9) rfl rfl rfl (fa (sL ea (List.replicate c.blocks.length ([]:(List Int))).length f9) rfl rfl rfl (bf (zf 3 (wT 2 [] 1 0 [6] [(6,(.bool true))] rfl fun _=>ae (fun(mm:Nat) f H'=> ∃(mo:Bool) (I1:List (List Int)) (O1:List (List Int)) (aw:Option Addr) (a1:Nat) (b3:Fp) (a0:Option Addr) (a2:Nat) (bk:Fp) (F':Fz),Fz.le F5 F'/\HS (Base.of H []) F' H' [g3,b3,bk] R/\OS F' (sL aw I1.length a1) I1 b3/\OS F' (sL a0 O1.length a2) O1 bk/\ap f [(1,(pT b1 0)),(4,(sL aw I1.length a1)),(5,(sL a0 O1.length a2)),(6,(.bool mo))]/\mm=mea mo (c.blocks.length*6000) (cnt2 I1 O1)/\(RSn c I1 O1)/\(mo=false->∀b,b<c.blocks.length->CL c I1 O1 b)) _ ⟨true,List.replicate c.blocks.length ([]:(List Int)),List.replicate c.blocks.length ([]:(List Int)),a9,k9,p9,ea,f9,g2,_,fR,b4,he,fi,⟨rfl,rfl,rfl,rfl,trivial⟩,rfl,(rsn_zero rfl),(by intro h;cases h)⟩ ?_))));rintro jw k5 kl ⟨mo,I1,O1,aw,a1,b3,a0,a2,bk,hE,c3,dl,c6,b2,e6,rfl,d4,cl⟩ hu;refine ah _ e6 (fun _=>?_);clear e6;replace hT:=hT.mono c3;replace V:=V.mono c3;have iz:=d4.li;have i2:=d4.lo;refine aA 2 rfl (wT 1 [] 23 23 [] [(23,(.bool mo))] rfl fun _=>zi 3 5 (fun d1=>?_) fun d1=>?_)
 ·try simp only[BS]at d1
  have l0:=d1;refine wT 2 [] 1 0 [6] [(6,(.bool false))] rfl fun _=>wR 2 [(1,.o (sL a5 c.blocks.length a7))] 24 27 [7] [(7,(iI ((c.blocks.length:Int)-1)))] (vA (ql 22 2 (HS.hc dl (i:=0) rfl) rfl rfl) (vA (vi (n:=(c.blocks.length:Int)-1)) trivial)) rfl fun _=>ae (fun(mm:Nat) f H'=> ∃(bz:Int) (m2:Bool) (I2:List (List Int)) (O2:List (List Int)) (T:Option Addr) (U:Nat) (a3:Fp) (A:Option Addr) (N:Nat) (a4:Fp) (F':Fz),Fz.le hE F'/\HS (Base.of H []) F' H' [g3,a3,a4] R/\OS F' (sL T I2.length U) I2 a3/\OS F' (sL A O2.length N) O2 a4/\ap f [(1,(pT b1 0)),(4,(sL T I2.length U)),(5,(sL A O2.length N)),(6,(.bool m2)),(7,(iI bz))]/\mm=(bz+1).toNat/\(RSn c I2 O2)/\(-1<=bz/\bz<(c.blocks.length:Int))/\(m2=false->I2=I1/\O2=O1)/\(m2=true->cnt2 I1 O1<cnt2 I2 O2)/\(m2=false->∀b:Nat,bz<(b:Int)->b<c.blocks.length->CL c I2 O2 b)) _ ⟨(c.blocks.length:Int)-1,false,I1,O1,aw,a1,b3,a0,a2,bk,_,fR,dl,c6,b2,⟨rfl,rfl,rfl,rfl,rfl,trivial⟩,rfl,(d4),(by omega),(fun _=>⟨rfl,rfl⟩),(by intro h;cases h),(by intro _ b h1 h2;omega)⟩ ?_
  rintro j0 k6 kn ⟨bz,m2,I2,O2,T,U,a3,A,N,a4,j2,c4,b5,E,Z,e9,rfl,bl,hbz,hQ,ha,hcl⟩ hw;refine ah _ e9 (fun _=>?_);clear e9;replace hT:=hT.mono c4;replace V:=V.mono c4;have i1:=bl.li;have i3:=bl.lo;refine aA 2 rfl (wT 1 [] 28 29 [] [(29,(.bool (decide ((0:Int)<=bz))))] rfl fun _=>zd 4 5 (fun hH=>?_) fun hH=>?_)
  ·have gb:bz.toNat<c.blocks.length:=by omega
   have lZ:=hl bz.toNat;refine wT 2 [] 1 0 [8] [(8,(sL none 0 0))] rfl fun _=>aa ?_
   obtain⟨e0,f2⟩:=Sv.view (SR.sv V b5);obtain⟨hW,hX,hY,h3,g7⟩:=BlkT.fx (f2 bz.toNat);let hj:Value:=(aG [(sL (cA (e0 bz.toNat) 0) (c.blocks.getD bz.toNat default).ins.length (cK (e0 bz.toNat) 0)),(iI (c.blocks.getD bz.toNat default).fin),(iI (c.blocks.getD bz.toNat default).reg),(iI (c.blocks.getD bz.toNat default).tgt),(iI (c.blocks.getD bz.toNat default).els)])
   refine wRo 5 0 [(1,.o (sL a5 c.blocks.length a7)),(4,.o hj)] 32 36 [] [(36,hj)] (vA (ql 22 2 (HS.hc b5 (i:=0) rfl) rfl rfl) (vA (Sv.ix (j:=bz) (SR.sv V b5)) (vA (qn 48 0 5 (BlkT.vw (f2 bz.toNat)) rfl rfl rfl rfl) trivial))) rfl fun _=>zc (ma.rsucc_c ex (c.blocks.getD bz.toNat default) (HS.call b5) g7 (by omega) (by omega) (by omega) (by omega) hT) ?_
   rintro _ ko ⟨em,go,la,g9,ch,dn,rfl,cc,rfl⟩;replace dn:HS _ _ _ [_,a3,a4] _:=HS.back b5 rfl dn;refine za (sL em (bh (c.blocks.getD bz.toNat default)).length go) (ze 3 (wT 2 [] 1 0 [10] [(10,(iI 0))] rfl fun _=>ae (fun(mm:Nat) f H'=> ∃(o:List Int) (q:Nat) (al:Option Addr) (an:Nat) (F':Fz),Fz.le g9 F'/\HS (Base.of H []) F' H' [g3,a3,a4] R/\SR F' (sL al o.length an) o/\ap f [(1,(pT b1 0)),(4,(sL T I2.length U)),(5,(sL A O2.length N)),(6,(.bool m2)),(7,(iI bz)),(8,(sL al o.length an)),(9,(sL em (bh (c.blocks.getD bz.toNat default)).length go)),(10,(iI (q:Int)))]/\mm=(bh (c.blocks.getD bz.toNat default)).length-q/\(Lst o (uS c I2 bz.toNat q))/\(q<=(bh (c.blocks.getD bz.toNat default)).length)) _ ⟨([]:List Int),0,none,0,_,fR,dn,(SR.nil:SR g9 (sL none 0 0) ([]:List Int)),⟨rfl,rfl,rfl,rfl,rfl,rfl,rfl,rfl,trivial⟩,rfl,(uS_zero),(by omega)⟩ ?_));rintro j1 k7 kr ⟨o,q,al,an,kc,b0,ag,bb,fd,rfl,ho,hq⟩ hz;refine ah _ fd (fun _=>?_);clear fd;replace hT:=(hT.mono ch).mono b0;replace V:=(V.mono ch).mono b0;replace cc:=cc.mono b0;replace E:=(E.mono ch).mono b0;replace Z:=(Z.mono ch).mono b0;have jc:=succ_len (b:=(c.blocks.getD bz.toNat default));refine aA 2 rfl (wT 1 [] 38 41 [] [(41,(.bool (decide ((q:Int)<((bh (c.blocks.getD bz.toNat default)).length:Int)))))] rfl fun _=>zd 3 5 (fun hI=>?_) fun hI=>?_)
   ·have lx:=eW (l:=bh (c.blocks.getD bz.toNat default)) (q:=q) (by omega);have hx:=vF.succ bz.toNat gb _ lx;have ms:=Lst.len ho l1.1 (fun r h=>uS_lt vF bl h);have mq:((I2.getD ((bh (c.blocks.getD bz.toNat default)).getD q 0).toNat default).length:Int)<=c.regs:=(rsn_len vF bl ((bh (c.blocks.getD bz.toNat default)).getD q 0).toNat).1;refine aa ?_;obtain⟨ik,f3⟩:=Sv.view (SR.sv cc ag);have k8:=fI (f3 q);obtain⟨co,f4⟩:=Sv.view (OS.sv E ag (i:=1) rfl);have hS:=fL (f4 ((bh (c.blocks.getD bz.toNat default)).getD q 0).toNat);refine wRo 8 0 [(5,.o (iI ((bh (c.blocks.getD bz.toNat default)).getD q 0))),(7,.o (sL (cA (co ((bh (c.blocks.getD bz.toNat default)).getD q 0).toNat) 0) (I2.getD ((bh (c.blocks.getD bz.toNat default)).getD q 0).toNat default).length (cK (co ((bh (c.blocks.getD bz.toNat default)).getD q 0).toNat) 0)))] 44 51 [] [(44,(sL al o.length an)),(51,(sL (cA (co ((bh (c.blocks.getD bz.toNat default)).getD q 0).toNat) 0) (I2.getD ((bh (c.blocks.getD bz.toNat default)).getD q 0).toNat default).length (cK (co ((bh (c.blocks.getD bz.toNat default)).getD q 0).toNat) 0)))] (vA (Sv.ix (j:=(q:Int)) (SR.sv cc ag)) (vA (ql 3 0 (vI (f3 q)) rfl rfl) (vA (Sv.ix (j:=((bh (c.blocks.getD bz.toNat default)).getD q 0)) (OS.sv E ag (i:=1) rfl)) (vA (ql 25 0 (vL (f4 ((bh (c.blocks.getD bz.toNat default)).getD q 0).toNat)) rfl rfl) trivial)))) rfl fun _=>zc (ma.eH ex o (I2.getD ((bh (c.blocks.getD bz.toNat default)).getD q 0).toNat default) (HS.call ag) bb hS hT (by omega)) ?_
    rintro _ kz ⟨et,g0,lc,kd,hp,ds,rfl,g6,rfl⟩;replace ds:HS _ _ _ [_,_,_] _:=HS.back ag rfl ds;refine za (sL et (cJ o (I2.getD ((bh (c.blocks.getD bz.toNat default)).getD q 0).toNat default)).length g0) (au 2 rfl (wU 1 [] 42 43 [10] [(10,(iI ((q:Int)+1)))] (vi (n:=(q:Int)+1)) rfl fun _=>hz _ _ _ ?_ ⟨cJ o (I2.getD ((bh (c.blocks.getD bz.toNat default)).getD q 0).toNat default),q+1,et,g0,_,(fT (b0) hp),ds,g6,⟨rfl,rfl,rfl,rfl,rfl,rfl,rfl,rfl,trivial⟩,rfl,(uS_step bl (show q<(bh (c.blocks.getD bz.toNat default)).length by omega) ho),(by omega)⟩));omega
   refine aa ?_;obtain⟨e1,f5⟩:=Sv.view (SR.sv V ag);obtain⟨h4,h5,h6,h7,g8⟩:=BlkT.fx (f5 bz.toNat);let hk:Value:=(aG [(sL (cA (e1 bz.toNat) 0) (c.blocks.getD bz.toNat default).ins.length (cK (e1 bz.toNat) 0)),(iI (c.blocks.getD bz.toNat default).fin),(iI (c.blocks.getD bz.toNat default).reg),(iI (c.blocks.getD bz.toNat default).tgt),(iI (c.blocks.getD bz.toNat default).els)])
   refine wRo 6 0 [(1,.o (sL a5 c.blocks.length a7)),(4,.o hk)] 53 58 [] [(57,hk),(58,(sL al o.length an))] (vA (ql 22 2 (HS.hc ag (i:=0) rfl) rfl rfl) (vA (Sv.ix (j:=bz) (SR.sv V ag)) (vA (qn 48 0 5 (BlkT.vw (f5 bz.toNat)) rfl rfl rfl rfl) trivial))) rfl fun _=>zc (mh.rpoints_c ex (c.blocks.getD bz.toNat default) o (HS.call ag) g8 (by omega) (by omega) (by omega) (by omega) bb hT (⟨_,rpo_of vF bl gb lZ ho⟩)) ?_
   rintro _ k0 ⟨ii,jq,b6,hR,kg,c5,av,rfl,d3,il⟩;replace av:HS _ _ _ [_,_,_,hR] _:=HS.back ag rfl av;replace E:=E.mono c5;replace Z:=Z.mono c5;replace bb:=bb.mono c5;obtain⟨a8,f6⟩:=Sv.view (OS.sv d3 av (i:=3) rfl);have hV:=fL (f6 0);refine wRo 3 7 [(8,.o (sL (cA (a8 0) 0) (b6.getD 0 default).length (cK (a8 0) 0)))] 60 61 [11] [(11,(sL (cA (a8 0) 0) (b6.getD 0 default).length (cK (a8 0) 0)))] (vA (Sv.ix (j:=0) (OS.sv d3 av (i:=3) rfl) (by decide) (by(have hq:=RpF.len (by assumption);omega))) (vA (ql 25 0 (vL (f6 0) (by(have hq:=RpF.len (by assumption);omega))) rfl rfl) trivial)) rfl fun _=>ze 2 ?_
   obtain⟨e2,f7⟩:=Sv.view (OS.sv Z av (i:=2) rfl);have lf:=fL (f7 bz.toNat);obtain⟨e3,f8⟩:=Sv.view (OS.sv E av (i:=1) rfl);have ll:=fL (f8 bz.toNat);refine wR 1 [(7,.o (sL (cA (e2 bz.toNat) 0) (O2.getD bz.toNat default).length (cK (e2 bz.toNat) 0))),(17,.o (sL (cA (e3 bz.toNat) 0) (I2.getD bz.toNat default).length (cK (e3 bz.toNat) 0)))] 62 82 [6] [(6,(.bool ((m2||((o.length:Int) !=((O2.getD bz.toNat default).length:Int)))||(((b6.getD 0 default).length:Int) !=((I2.getD bz.toNat default).length:Int)))))] (vA (fun(g1:m2=false)=>(Sv.ix (j:=bz) (OS.sv Z av (i:=2) rfl) (by(try simp only[BS]at g1);(first|(dsimp only;omega)|omega|(have hq:=RpF.len (by assumption);dsimp only at hq⊢;omega)|(have hq:=RpF.len (by assumption);omega))) (by(try simp only[BS]at g1);(first|(dsimp only;omega)|omega|(have hq:=RpF.len (by assumption);dsimp only at hq⊢;omega)|(have hq:=RpF.len (by assumption);omega))))) (vA (fun(g1:m2=false)=>(ql 25 0 (vL (f7 bz.toNat) (by(try simp only[BS]at g1);(first|(dsimp only;omega)|omega|(have hq:=RpF.len (by assumption);dsimp only at hq⊢;omega)|(have hq:=RpF.len (by assumption);omega)))) rfl rfl)) (vA (fun(g1:(m2||((o.length:Int) !=((O2.getD bz.toNat default).length:Int)))=false)=>(Sv.ix (j:=bz) (OS.sv E av (i:=1) rfl) (by(try simp only[BS]at g1);(first|(dsimp only;omega)|omega|(have hq:=RpF.len (by assumption);dsimp only at hq⊢;omega)|(have hq:=RpF.len (by assumption);omega))) (by(try simp only[BS]at g1);(first|(dsimp only;omega)|omega|(have hq:=RpF.len (by assumption);dsimp only at hq⊢;omega)|(have hq:=RpF.len (by assumption);omega))))) (vA (fun(g1:(m2||((o.length:Int) !=((O2.getD bz.toNat default).length:Int)))=false)=>(ql 25 0 (vL (f8 bz.toNat) (by(try simp only[BS]at g1);(first|(dsimp only;omega)|omega|(have hq:=RpF.len (by assumption);dsimp only at hq⊢;omega)|(have hq:=RpF.len (by assumption);omega)))) rfl rfl)) trivial)))) rfl fun _=>aa (wUo 7 0 [] 83 89 [] [(85,(sL A O2.length N)),(86,(iI bz)),(87,(sL (cA (a8 0) 0) (b6.getD 0 default).length (cK (a8 0) 0))),(88,(sL al o.length an)),(89,(.pointer (some ⟨sB (sL T I2.length U),sO (sL T I2.length U)+bz.toNat*Rp.sz (List Int),none⟩)))] (Sv.ix (j:=bz) (OS.sv E av (i:=1) rfl)) rfl fun _=>aH (bF (α:=(List Int)) (j:=bz.toNat) (off:=0) (q:=1) (b6.getD 0 default) E av rfl rfl rfl rfl rfl rfl rfl rfl (aq (x:=default) (by omega)) rfl (by rintro cs ⟨_,_,rfl,_⟩;exact⟨a03 rfl,⟨(cA (a8 0) 0),(cK (a8 0) 0),rfl,hV⟩⟩)) rfl ?_)
   rintro _ k3 hf ⟨c9,(f1:HS _ _ _ [_,hf,_,_] _),_⟩;have h8:=OS.len' c9;refine wUo 1 8 [] 90 90 [] [(90,(.pointer (some ⟨sB (sL A O2.length N),sO (sL A O2.length N)+bz.toNat*Rp.sz (List Int),none⟩)))] (Sv.ix (j:=bz) (OS.sv Z f1 (i:=2) rfl)) rfl fun _=>aH (bF (α:=(List Int)) (j:=bz.toNat) (off:=0) (q:=2) o Z f1 rfl rfl rfl rfl rfl rfl rfl rfl (aq (x:=default) (by omega)) rfl (by rintro cs ⟨_,_,rfl,_⟩;exact⟨a03 rfl,⟨al,an,rfl,bb⟩⟩)) rfl ?_
   rintro _ k4 hg ⟨dd,(ht:HS _ _ _ [_,_,hg,_] _),_⟩;have h9:=OS.len' dd;refine ze 2 (wU 1 [] 30 31 [7] [(7,(iI (bz-1)))] (vi (n:=bz-1)) rfl fun _=>?_);have hx:=stp_of (I:=I2) (O:=O2) (show(bh (c.blocks.getD bz.toNat default)).length<=q by omega) ho (by assumption);have hn:=mv bl gb hx hQ ha rfl;refine hw _ _ _ ?_ ⟨bz-1,((m2||((o.length:Int) !=((O2.getD bz.toNat default).length:Int)))||(((b6.getD 0 default).length:Int) !=((I2.getD bz.toNat default).length:Int))),I2.set bz.toNat (b6.getD 0 default),O2.set bz.toNat o,T,U,hf,A,N,hg,_,(fT (fT (fT (c4) ch) b0) c5),(HS.sub ht (a01 _ _)),(OS.norm c9),(OS.norm dd),(agC rfl (agC (show Value.slice T I2.length U=Value.slice T (I2.set bz.toNat (b6.getD 0 default)).length U by rw[OS.len' c9]) (agC (show Value.slice A O2.length N=Value.slice A (O2.set bz.toNat o).length N by rw[OS.len' dd]) ⟨rfl,rfl,trivial⟩))),rfl,(rsn_set bl gb hx),(by omega),(hn.1),(hn.2.1),(fun h b h1 h2=>hn.2.2 h (fun hm b h1=>hcl hm b (by omega)) b (by omega) h2)⟩;omega
  refine hu _ _ _ ?_ ⟨m2,I2,O2,T,U,a3,A,N,a4,_,(fT (c3) c4),b5,E,Z,⟨rfl,rfl,rfl,rfl,trivial⟩,rfl,(bl),(fun h b hb=>hcl h b (by omega) hb)⟩;rw[l0];exact mea_lt ha (cnt2_le vF bl)
 try simp only[BS]at d1
 refine wT 1 [] 2 3 [91,92] [(2,(sL aw I1.length a1)),(3,(sL a0 O1.length a2))] rfl fun _=>?_
 obtain⟨ki,e4,dt,dk,ja⟩:=OS.frz c6 dl (i:=1) rfl;have dt:HS _ _ _ [_,[],bk] _:=dt;replace b2:=b2.mono e4;obtain⟨kk,e5,dv,hr,jb⟩:=OS.frz b2 dt (i:=2) rfl;have dv:HS _ _ _ [_,_,[]] _:=dv;replace dk:=dk.mono e5;refine aj ⟨.inr rfl,_,rfl,aw,a1,I1,a0,a2,O1,_,(fT (fT (fT (d2) c3) e4) e5),(HS.forget dv),rfl,dk,hr,(fun _=>bkf_of d4 (cl (by assumption))),(fun h=>absurd (hv.symm.trans h) (by decide))⟩
end Go.Proofs.YtknafdcgpaejlaaDoor.mi
