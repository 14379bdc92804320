/-
Live registers: the reference solution of the equations. No condition but bounds on lengths.
-/
import Derived.Test.YtgdggmlghemecaaDoorZAMH
noncomputable section
namespace Go.Proofs.YtgdggmlghemecaaDoor.mi
open Go.R
set_option maxRecDepth 10000
set_option linter.unusedVariables false
set_option linter.unusedSimpArgs false
variable (ex:FuncId) {F:Fz} {H:Heap} {R:List Fp}
open m1 m2 m3 m4 m5 m6 ma ml mb mc md mf mg mh
abbrev dw(l:List (List Int))(b:Nat):List Int:=l.getD b default
structure RSn(c:VFnT)(I O:List (List Int)):Prop where
 li:I.length=c.blocks.length
 lo:O.length=c.blocks.length
 ai: ∀b,Asc (dw I b)
 ao: ∀b,Asc (dw O b)
 si: ∀b,∀x∈dw I b,0<=x/\LIn c b x.toNat
 so: ∀b,∀x∈dw O b,0<=x/\lR c b x.toNat
 mo: ∀b,b<c.blocks.length->∀r,oS (dw O b) r->outS c (fun t r=>oS (dw I t) r) b r
 mi: ∀b,b<c.blocks.length->∀r,oS (dw I b) r->inS (bh c b) (oS (dw O b)) r
theorem rsn_zero{c:VFnT}{n:Nat}(h:n=c.blocks.length):RSn c (List.replicate n []) (List.replicate n []):=by
 have e: ∀b,dw (List.replicate n ([]:List Int)) b=[]:=fun b=>by unfold dw;rw[a03,a1k];split<;>rfl
 have A: ∀b r,¬oS (dw (List.replicate n ([]:List Int)) b) r:=fun b r h=>by rw[e]at h;cases h
 exact⟨by simp[h],by simp[h],fun b=>by rw[e];exact List.Pairwise.nil,fun b=>by rw[e];exact List.Pairwise.nil,fun b x z=>by(rw[e]at z;cases z),fun b x z=>by(rw[e]at z;cases z),fun b _ r h=>absurd h (A b r),fun b _ r h=>absurd h (A b r)⟩
theorem cZ{l:List (List Int)}{b z:Nat}{x:List Int}(A:b<l.length):dw (l.set b x) z=if b=z then x else dw l z:=by
 unfold dw;rw[dI];by_cases h:b=z
 ·subst h;rw[if_pos ⟨V,A⟩,if_pos rfl]
 rw[if_neg (fun e=>h e.1),if_neg h]
theorem mM: ∀{b a:List Int},Asc a->Asc b->(∀x∈a,x∈b)->a.Sublist b
 | [],[],_,_,_=>List.Sublist.refl _
 | [],x::a,_,_,h=>absurd (h x (a0G ..)) a0d
 |y::b,[],_,_,_=>List.nil_sublist _
 |y::b,x::a,ha,hb,h=>by
  have E:=List.pairwise_cons.1 ha;have N:=List.pairwise_cons.1 hb;by_cases e:x=y
  ·subst e;refine List.Sublist.cons_cons _ (mM E.2 N.2 fun z T=>?_);rcases a0s.1 (h z (a0i _ T)) with e|e
   ·subst e;have:=E.1 z T;omega
   exact e
  have U:x∈b:=by
   rcases a0s.1 (h x (a0G ..)) with e'|e'
   ·exact absurd e' e
   exact e'
  have Z:=N.1 x U;refine List.Sublist.cons _ (mM ha N.2 fun z T=>?_);rcases a0s.1 (h z T) with e'|e'
  ·rcases a0s.1 T with A|A
   ·exact absurd (A.symm.trans e') e
   have:=E.1 z A;omega
  exact e'
theorem lM{a b:List Int}(z:Asc a)(A:Asc b)(h: ∀x∈a,x∈b)(E:b.length=a.length):a=b:=(mM z A h).eq_of_length E.symm
theorem kG{a b:List Int}(z:Asc a)(A:Asc b)(h: ∀x∈a,x∈b):a.length<=b.length:=(mM z A h).length_le
theorem Lst.ext{l:List Int}{S S':Nat->Prop}(h:Lst l S)(hs: ∀r,S r↔S' r):Lst l S':=⟨h.asc,fun x=>by rw[h.mem,hs]⟩
def uS(c:VFnT)(I:List (List Int))(b q r:Nat):Prop:= ∃t∈(bo (bh c b)).take q,oS (dw I t.toNat) r
theorem uS_zero{c:VFnT}{I:List (List Int)}{b:Nat}:Lst [] (uS c I b 0):=Lst.nil fun r ⟨t,h,_⟩=>by simp at h
theorem RSn.lstI{c:VFnT}{I O:List (List Int)}(h:RSn c I O)(b:Nat):Lst (dw I b) (oS (dw I b)):=⟨h.ai b,fun x=>⟨fun z=>⟨(h.si b x z).1,by unfold oS;rwa [a18 (h.si b x z).1]⟩,fun z=>by have A:=z.2;unfold oS at A;rwa [a18 z.1]at A⟩⟩
theorem uS_step{c:VFnT}{I O:List (List Int)}{b q:Nat}{o:List Int}(hs:RSn c I O)(z:q<(bo (bh c b)).length)(h:Lst o (uS c I b q)):Lst (da o (dw I ((bo (bh c b)).getD q 0).toNat)) (uS c I b (q+1)):=by
 refine Lst.ext (Lst.union h (hs.lstI _)) fun r=>?_
 unfold uS;rw[bK z (d:=0)];constructor
 ·rintro(⟨t,A,E⟩|A)
  ·exact⟨t,a08.2 (.inl A),E⟩
  exact⟨_,a08.2 (.inr (a0f.2 V)),A⟩
 rintro⟨t,A,E⟩;rcases a08.1 A with A|A
 ·exact .inl ⟨t,A,E⟩
 rw[a0f]at A;subst A;exact .inr E
theorem uS_all{c:VFnT}{I:List (List Int)}{b q r:Nat}(z:(bo (bh c b)).length<=q):uS c I b q r↔outS c (fun t r=>oS (dw I t) r) b r:=by unfold uS outS;rw[a0h z]
theorem uS_in{c:VFnT}{I O:List (List Int)}{b q r:Nat}(hs:RSn c I O)(h:uS c I b q r):lR c b r:=by obtain⟨t,A,E⟩:=h;refine⟨t,a1v A,?_⟩;have:=hs.si _ _ E;exact this.2
theorem uS_lt{c:VFnT}(v:VF c){I O:List (List Int)}{b q r:Nat}(hs:RSn c I O)(h:uS c I b q r):(r:Int)<c.regs:=iO v (uS_in hs h)
theorem rpo_of{c:VFnT}(v:VF c){I O:List (List Int)}{b q:Nat}{o:List Int}(hs:RSn c I O)(N:b<c.blocks.length)(Z:(bh c b).ins.length<=1073741824)(T:Lst o (uS c I b q)):RpO (bh c b) o c.regs:=by
 refine⟨v.regs,Z,fun i hi=>bx (v.ins b N i hi),fun x z=>?_,T.asc,fun x z=>?_⟩
 ·unfold ei at z;split at z
  ·rename_i U;rw[a0f]at z;have:=v.fin b N U;omega
  cases z
 have A:=(T.mem x).1 z;have E:=uS_lt v hs A.2;omega
theorem rpo_out{c:VFnT}(v:VF c){b:Nat}{o:List Int}(N:b<c.blocks.length)(Z:(bh c b).ins.length<=1073741824)(T:Lst o (lR c b)):RpO (bh c b) o c.regs:=by
 refine⟨v.regs,Z,fun i hi=>bx (v.ins b N i hi),fun x z=>?_,T.asc,fun x z=>?_⟩
 ·unfold ei at z;split at z
  ·rename_i U;rw[a0f]at z;have:=v.fin b N U;omega
  cases z
 have A:=(T.mem x).1 z;have E:=iO v A.2;omega
theorem j5{l:List Int}{S:Nat->Prop}(h:Lst l S)(r:Nat):oS l r↔S r:=by unfold oS;rw[h.mem];exact⟨fun h=>by simpa using h.2,fun h=>⟨by omega,by simpa using h⟩⟩
structure Stp(c:VFnT)(I O:List (List Int))(b:Nat)(o i:List Int):Prop where
 lo:Lst o (outS c (fun t r=>oS (dw I t) r) b)
 li:Lst i (inS (bh c b) (oS o))
theorem stp_of{c:VFnT}{I O:List (List Int)}{b q:Nat}{o:List Int}{l:List (List Int)}(E:(bo (bh c b)).length<=q)(A:Lst o (uS c I b q))(z:RpF (bh c b) o l):Stp c I O b o (dw l 0):=
 ⟨Lst.ext A fun r=>uS_all E,Lst.ext (z.pt 0 (a0I _)) fun r=>Iff.rfl⟩
theorem stp_sub{c:VFnT}{I O:List (List Int)}{b:Nat}{o i:List Int}(h:RSn c I O)(N:b<c.blocks.length)(s:Stp c I O b o i):(∀x∈dw O b,x∈o)/\(∀x∈dw I b,x∈i):=by
 have E: ∀r,oS (dw O b) r->oS o r:=fun r T=>(j5 s.lo r).2 (h.mo b N r T)
 refine⟨fun x z=>?_,fun x z=>?_⟩
 ·have A:=(h.so b x z).1;have:=E x.toNat (by unfold oS;rwa [a18 A]);unfold oS at this;rwa [a18 A]at this
 have A:=(h.si b x z).1;have:=h.mi b N x.toNat (by unfold oS;rwa [a18 A]);exact(s.li.mem x).2 ⟨A,fB E _ this⟩
theorem rsn_set{c:VFnT}{I O:List (List Int)}{b:Nat}{o i:List Int}(h:RSn c I O)(hb:b<c.blocks.length)(s:Stp c I O b o i):RSn c (I.set b i) (O.set b o):=by
 obtain⟨so,si⟩:=stp_sub h hb s;have ag:b<I.length:=by rw[h.li];exact hb
 have al:b<O.length:=by rw[h.lo];exact hb
 have mI: ∀t r,oS (dw I t) r->oS (dw (I.set b i) t) r:=fun t r z=>by
  rw[cZ ag];split
  ·rename_i e;subst e;exact si _ z
  exact z
 refine⟨by rw[a0c];exact h.li,by rw[a0c];exact h.lo,fun Z=>?_,fun Z=>?_,fun Z x hx=>?_,fun Z x hx=>?_,fun Z an r z=>?_,fun Z an r z=>?_⟩
 ·rw[cZ ag];split
  ·exact s.li.asc
  exact h.ai Z
 ·rw[cZ al];split
  ·exact s.lo.asc
  exact h.ao Z
 ·rw[cZ ag]at hx;split at hx
  ·rename_i e;subst e;obtain⟨A,U⟩:=(s.li.mem x).1 hx;refine⟨A,mU c b hb _ (fB (fun r z=>?_) _ U)⟩;obtain⟨t,E,N⟩:=(j5 s.lo r).1 z;have T:=h.si _ _ N;exact⟨t,E,T.2⟩
  exact h.si Z x hx
 ·rw[cZ al]at hx;split at hx
  ·rename_i e;subst e;obtain⟨A,t,E,N⟩:=(s.lo.mem x).1 hx;have T:=h.si _ _ N;exact⟨A,t,E,T.2⟩
  exact h.so Z x hx
 ·rw[cZ al]at z;split at z
  ·rename_i e;subst e;exact hU (fun t r=>mI t r) _ _ ((j5 s.lo r).1 z)
  exact hU (fun t r=>mI t r) _ _ (h.mo Z an r z)
 rw[cZ ag]at z;rw[cZ al];split at z
 ·rename_i e;subst e;rw[if_pos rfl];exact(j5 s.li r).1 z
 rename_i e;rw[if_neg e];exact h.mi Z an r z
def cntL(I:List (List Int)):Nat:=(I.map List.length).sum
theorem cntL_set{I:List (List Int)}{b:Nat}(z:b<I.length)(s:List Int):cntL (I.set b s)+(dw I b).length=cntL I+s.length:=by unfold cntL dw;rw[List.map_set];have:=sum_set (I.map List.length) b s.length (by rw[a1G];exact z);rw[a03,a1n,a05 z]at this;rw[a03,a05 z];exact this
theorem cntL_le{l:List (List Int)}{B:Nat}(h: ∀b,(dw l b).length<=B):cntL l<=l.length *B:=by
 unfold cntL;have key: ∀(l:List (List Int)),(∀s∈l,s.length<=B)->(l.map List.length).sum<=l.length *B:=by
  intro l;induction l with
  |nil=>intro _;simp
  |cons s l ih=>
   intro h
   have A:=ih fun x N=>h x (a0i _ N)
   have E:=h s (a0G ..)
   rw[List.map_cons,List.sum_cons,a0a,a1r];omega
 refine key l fun s hs=>?_
 obtain⟨b,z,rfl⟩:=a0K.1 hs;have:=h b;unfold dw at this;rwa [a03,a05 z]at this
def cnt2(I O:List (List Int)):Nat:=cntL I+cntL O
theorem rsn_len{c:VFnT}(v:VF c){I O:List (List Int)}(h:RSn c I O)(b:Nat):((dw I b).length:Int)<=c.regs/\((dw O b).length:Int)<=c.regs:=by
 have N:=v.regs;constructor
 ·have:=kH (m:=c.regs) 0 N.1 (h.ai b) fun x z=>by obtain⟨A,E⟩:=h.si b x z;have:=lin_lt v E;exact⟨A,by omega⟩
  omega
 have:=kH (m:=c.regs) 0 N.1 (h.ao b) fun x z=>by obtain⟨A,E⟩:=h.so b x z;have:=iO v E;exact⟨A,by omega⟩
 omega
theorem cnt2_le{c:VFnT}(v:VF c){I O:List (List Int)}(h:RSn c I O):cnt2 I O<=c.blocks.length *6000:=by
 have z:=v.regs;have A:=cntL_le (l:=I) (B:=3000) fun b=>by have:=(rsn_len v h b).1;omega
 have E:=cntL_le (l:=O) (B:=3000) fun b=>by have:=(rsn_len v h b).2;omega
 rw[h.li]at A;rw[h.lo]at E;unfold cnt2;omega
def CL(c:VFnT)(I O:List (List Int))(b:Nat):Prop:=(∀r,outS c (fun t r=>oS (dw I t) r) b r->oS (dw O b) r)/\∀r,inS (bh c b) (oS (dw O b)) r->oS (dw I b) r
theorem stp_same{c:VFnT}{I O:List (List Int)}{b:Nat}{o i:List Int}(h:RSn c I O)(U:b<c.blocks.length)(s:Stp c I O b o i)(N:(o.length:Int)=((dw O b).length:Int))(T:(i.length:Int)=((dw I b).length:Int)):I.set b i=I/\O.set b o=O/\CL c I O b:=by
 obtain⟨so,Z⟩:=stp_sub h U s;have A:=lM (h.ao b) s.lo.asc so M;have E:=lM (h.ai b) s.li.asc Z M;refine⟨by rw[←E];exact eO _ _,by rw[←A];exact eO _ _,fun r z=>?_,fun r z=>?_⟩
 ·rw[A];exact(j5 s.lo r).2 z
 rw[A]at z;rw[E];exact(j5 s.li r).2 z
theorem stp_more{c:VFnT}{I O:List (List Int)}{b:Nat}{o i:List Int}(h:RSn c I O)(z:b<c.blocks.length)(s:Stp c I O b o i):cnt2 I O<=cnt2 (I.set b i) (O.set b o)/\(((o.length:Int)≠((dw O b).length:Int)\/(i.length:Int)≠((dw I b).length:Int))->cnt2 I O<cnt2 (I.set b i) (O.set b o)):=by obtain⟨Z,U⟩:=stp_sub h z s;have A:=kG (h.ao b) s.lo.asc Z;have E:=kG (h.ai b) s.li.asc U;have N:=cntL_set (I:=I) (b:=b) (by rw[h.li];exact z) i;have T:=cntL_set (I:=O) (b:=b) (by rw[h.lo];exact z) o;unfold cnt2;exact⟨by omega,fun h=>by omega⟩
theorem mv{c:VFnT}{I O A E:List (List Int)}{b:Nat}{o i:List Int}{m2 m':Bool}(h:RSn c I O)(hb:b<c.blocks.length)(s:Stp c I O b o i)(U:m2=false->I=A/\O=E)(a_:m2=true->cnt2 A E<cnt2 I O)
  (e:m'=((m2||((o.length:Int) !=((O.getD b default).length:Int)))||((i.length:Int) !=((I.getD b default).length:Int)))):(m'=false->I.set b i=A/\O.set b o=E)/\(m'=true->cnt2 A E<cnt2 (I.set b i) (O.set b o))/\(m'=false->(m2=false->∀z:Nat,b<z->z<c.blocks.length->CL c I O z)->∀z:Nat,b<=z->z<c.blocks.length->CL c (I.set b i) (O.set b o) z):=by
 have hm:=stp_more h hb s
 have key:m'=false->m2=false/\(o.length:Int)=((dw O b).length:Int)/\(i.length:Int)=((dw I b).length:Int):=fun hf=>by rw[e]at hf;simp only[a0F,bne_eq_false_iff_eq]at hf;exact⟨hf.1.1,hf.1.2,hf.2⟩
 refine⟨fun hf=>?_,fun ht=>?_,fun hf hc z h2 h3=>?_⟩
 ·obtain⟨k1,k2,Z⟩:=key hf;obtain⟨N,T,_⟩:=stp_same h hb s k2 Z;rw[N,T];exact U k1
 ·rw[e]at ht;simp only[a0z,bne_iff_ne]at ht;rcases ht with(ht|ht)|ht
  ·have:=a_ ht;omega
  ·have:=hm.2 (.inl ht);cases m2 with
   |false=>obtain⟨rfl,rfl⟩:=U V;exact this
   |true=>have:=a_ V;omega
  have:=hm.2 (.inr ht);cases m2 with
  |false=>obtain⟨rfl,rfl⟩:=U V;exact this
  |true=>have:=a_ V;omega
 obtain⟨k1,k2,Z⟩:=key hf
 obtain⟨N,T,e3⟩:=stp_same h hb s k2 Z
 rw[N,T]
 rcases a20 h2 with e'|e'
 ·subst e';exact e3
 exact hc k1 z e' h3
theorem bkf_of{c:VFnT}{I O:List (List Int)}(h:RSn c I O)(hc: ∀b,b<c.blocks.length->CL c I O b):BkF c I O:=by
 have T:Clo c (fun b r=>oS (dw I b) r):=fun b z r hr=>(hc b z).2 r (fB (fun q Z=>(hc b z).1 q Z) r hr)
 refine⟨h.li,h.lo,fun b z=>⟨h.ai b,fun x=>⟨h.si b x,fun U=>?_⟩⟩,fun b z=>⟨h.ao b,fun x=>⟨h.so b x,fun U=>?_⟩⟩⟩
 ·have:=U.2 _ T;unfold oS at this;rwa [a18 U.1]at this
 obtain⟨A,t,E,N⟩:=U;have:=(hc b z).1 x.toNat ⟨t,E,N _ T⟩;unfold oS at this;rwa [a18 A]at this
theorem ptf_of{c:VFnT}{b:Nat}{o:List Int}{l:List (List Int)}(A:Lst o (lR c b))(h:RpF (bh c b) o l):PtF c b l:=by
 refine⟨h.len,fun i hi=>Lst.ext (h.pt i hi) fun r=>?_⟩;unfold rpS ptS;have e: ∀r,oS o r↔lR c b r:=j5 A;constructor
 ·exact lX (fun q z=>z.imp (e q).1 id) _ r
 exact lX (fun q z=>z.imp (e q).2 id) _ r
set_option maxHeartbeats 2000000 in
theorem j0{b6:Option Addr}{b9:Nat}(c:VFnT)(hs:HS (.of H []) F H [] R)(h8:in64 c.params)(h9:in64 c.regs)(a_:SR F (sL b6 c.blocks.length b9) c.blocks)(hT:TB 37 tabC F)(e0: ∀j,(c.blocks.getD j default).ins.length<=1073741824):kKt ex 18 [(aG [(iI c.params),(iI c.regs),(sL b6 c.blocks.length b9)])] H fun v H'=> ∃(ax:Option Addr) (kx:Nat) (x:List (List Int)) (ay:Option Addr) (ky:Nat) (y:List (List Int)) (F':Fz),Fz.le F F'/\HS (.of H []) F' H' [] R/\v= .tuple ⟨[sL ax x.length kx,sL ay y.length ky]⟩/\SR F' (sL ax x.length kx) x/\SR F' (sL ay y.length ky) y/\(bT c=true->BkF c x y)/\(bT c=false->x=[]/\y=[]):=by
 refine aC Tryd.func18 V V (aj 1 V (aa (aV (aO hs V V) V V ?_)));rintro _ H2 _ ⟨b1,rfl,f0,_⟩;refine wTo 2 1 [] 2 3 [] [(2,(sL none 0 0)),(3,(sL none 0 0))] V fun _=>ae 3 V (aa (bn 1 0 12 12 [] [(12,(aG [(iI c.params),(iI c.regs),(sL b6 c.blocks.length b9)]))] (Hr_ 0 0 Hn_) f0 V V fun _=>zc (m3.eQ ex c (HS.call f0) M M a_ hT (fun j=>a0e (e0 j) M)) ?_))
 rintro _ H5 ⟨r5,F5,d1,ch,rfl,rfl⟩;replace ch:=HS.back f0 V ch;replace hT:=hT.mono d1;replace a_:=a_.mono d1;refine cj 1 2 14 14 [] [(14,(.bool (!(bT c))))] Hn_ (by kernel_rfl) V fun _=>ae 1 V (zi 1 2 (fun c7=>?_) fun c7=>?_)
 ·try simp only[BS]at c7
  have hv:=c7;refine wT 1 [] 2 3 [] [(2,(sL none 0 0)),(3,(sL none 0 0))] V fun _=>am ⟨.inr V,_,V,none,0,([]:List (List Int)),none,0,([]:List (List Int)),_,(d1),(HS.forget ch),V,(SR.nil:SR F5 (sL none 0 0) ([]:List (List Int))),(SR.nil:SR F5 (sL none 0 0) ([]:List (List Int))),(fun h=>absurd (h.symm.trans hv) e_),(fun _=>⟨V,V⟩)⟩
 try simp only[BS]at c7
 have hv:=c7;have vF:=eU hv;have no:=vF.nb;have mY:=vF.regs;refine aF V (d8 3 15 17 [] [(17,(iI (c.blocks.length:Int)))] (Hr_ 1 0 Hn_) ch V V fun _=>e9 (id:= .x []) (cG ([]:(List Int)) ch.log0 V V V V V V V V V ⟨none,0,V,SR.nil⟩ M M) V V (by rintro _ _ g0 ⟨ds,d3,rfl,c4,_,hwr⟩;exact dK V V (Wr.did hwr)) (kb V) ?_);rintro _ hu g0 ⟨ds,d3,rfl,c4,a8,_⟩ hp g4;replace a8:=HS.lg a8 ch g4;generalize ({hu with log:=hp}:Heap)=hY at a8⊢;have c4:OS F5 (sL ds (List.replicate c.blocks.length ([]:(List Int))).length d3) (List.replicate c.blocks.length ([]:(List Int))) g0:=c4;refine zp 2 (aK (v:=(sL b6 c.blocks.length b9)) (id:= .l b1) (cW (i:=2) V V (HS.hc a8.log0 (i:=0) V) V V) V V (cP V) (⟨.inl V,⟨.inr a0d,⟨.inr trivial,⟨.inr trivial,⟨.inr trivial,trivial⟩⟩⟩⟩⟩) (aK (v:=(iI (c.blocks.length:Int))) (id:= .v) (ap_lenV (α:=BlkT) V V (SR.sv a_ a8.log0)) V V (did_len V) (eE _) (e9 (id:= .x []) (cG ([]:(List Int)) a8.log0 V V V V V V V V V ⟨none,0,V,SR.nil⟩ M M) V V (by rintro _ _ g2 ⟨dt,d4,rfl,c5,_,hwr⟩;exact dK V V (Wr.did hwr)) (⟨.inl V,⟨.inl V,⟨.inl V,⟨.inr ⟨trivial,trivial⟩,⟨.inr trivial,⟨.inr a0d,⟨.inr trivial,trivial⟩⟩⟩⟩⟩⟩⟩) ?_)));rintro _ hw g2 ⟨dt,d4,rfl,c5,b8,_⟩ hr g5;replace b8:=HS.lg b8 a8 g5;generalize ({hw with log:=hr}:Heap)=h0 at b8⊢;have c5:OS F5 (sL dt (List.replicate c.blocks.length ([]:(List Int))).length d4) (List.replicate c.blocks.length ([]:(List Int))) g2:=c5;let g3:Fp:=(fP b1 [(iI c.params),(iI c.regs),(sL b6 c.blocks.length b9)])
 refine d8 2 1 0 [4,5] [(4,(sL ds (List.replicate c.blocks.length ([]:(List Int))).length d3)),(5,(sL dt (List.replicate c.blocks.length ([]:(List Int))).length d4))] Hn_ b8 V V fun _=>bB 3 V (wT 2 [] 1 0 [6] [(6,(.bool true))] V fun _=>ah (fun(mm:Nat) f H'=> ∃(mo:Bool) (I1:List (List Int)) (O1:List (List Int)) (aw:Option Addr) (a1:Nat) (bb:Fp) (a0:Option Addr) (a2:Nat) (bk:Fp) (F':Fz),Fz.le F5 F'/\HS (Base.of H []) F' H' [g3,bb,bk] R/\OS F' (sL aw I1.length a1) I1 bb/\OS F' (sL a0 O1.length a2) O1 bk/\aA f [(1,(pT b1 0)),(4,(sL aw I1.length a1)),(5,(sL a0 O1.length a2)),(6,(.bool mo))]/\mm=mea mo (c.blocks.length *6000) (cnt2 I1 O1)/\(RSn c I1 O1)/\(mo=false->∀b,b<c.blocks.length->CL c I1 O1 b)) _ ⟨true,List.replicate c.blocks.length ([]:(List Int)),List.replicate c.blocks.length ([]:(List Int)),ds,d3,g0,dt,d4,g2,_,fR,b8,c4,c5,⟨V,V,V,V,trivial⟩,V,(rsn_zero V),(by intro h;cases h)⟩ ?_)
 rintro i3 k3 kk ⟨mo,I1,O1,aw,a1,bb,a0,a2,bk,ht,co,dk,c6,a9,e6,rfl,ea,cl⟩ hk;refine ap _ e6 (fun _=>?_);clear e6;replace hT:=hT.mono co;replace a_:=a_.mono co;have ib:=ea.li;have ik:=ea.lo;refine aj 2 V (wT 1 [] 23 23 [] [(23,(.bool mo))] V fun _=>zi 3 5 (fun dv=>?_) fun dv=>?_)
 ·try simp only[BS]at dv
  have mX:=dv;refine wT 2 [] 1 0 [6] [(6,(.bool false))] V fun _=>bF 2 24 27 [7] [(7,(iI ((c.blocks.length:Int)-1)))] (Hr_ 1 0 (Ha_ (vi (n:=(c.blocks.length:Int)-1)) Hn_)) dk V V fun _=>ah (fun(mm:Nat) f H'=> ∃(z:Int) (m2:Bool) (I2:List (List Int)) (O2:List (List Int)) (T:Option Addr) (U:Nat) (a4:Fp) (A:Option Addr) (N:Nat) (a5:Fp) (F':Fz),Fz.le ht F'/\HS (Base.of H []) F' H' [g3,a4,a5] R/\OS F' (sL T I2.length U) I2 a4/\OS F' (sL A O2.length N) O2 a5/\aA f [(1,(pT b1 0)),(4,(sL T I2.length U)),(5,(sL A O2.length N)),(6,(.bool m2)),(7,(iI z))]/\mm=(z+1).toNat/\(RSn c I2 O2)/\(-1<=z/\z<(c.blocks.length:Int))/\(m2=false->I2=I1/\O2=O1)/\(m2=true->cnt2 I1 O1<cnt2 I2 O2)/\(m2=false->∀b:Nat,z<(b:Int)->b<c.blocks.length->CL c I2 O2 b)) _ ⟨(c.blocks.length:Int)-1,false,I1,O1,aw,a1,bb,a0,a2,bk,_,fR,dk,c6,a9,⟨V,V,V,V,V,trivial⟩,V,(ea),M,(fun _=>⟨V,V⟩),(by intro h;cases h),(by intro _ b h1 h2;omega)⟩ ?_
  rintro ja k4 kl ⟨z,m2,I2,O2,T,U,a4,A,N,a5,jq,c0,b2,E,Z,fd,rfl,a6,hbz,hD,ha,hcl⟩ hl;refine ap _ fd (fun _=>?_);clear fd;replace hT:=hT.mono c0;replace a_:=a_.mono c0;have ih:=a6.li;have il:=a6.lo;refine aj 2 V (wT 1 [] 28 29 [] [(29,(.bool (decide ((0:Int)<=z))))] V fun _=>zd 4 5 (fun hz=>?_) fun hz=>?_)
  ·have b4:z.toNat<c.blocks.length:=M
   have mW:=e0 z.toNat;refine wT 2 [] 1 0 [8] [(8,(sL none 0 0))] V fun _=>aa ?_
   obtain⟨e1,f2⟩:=Sv.view (SR.sv a_ b2);obtain⟨hI,hJ,hK,hM,g7⟩:=BlkT.fx (f2 z.toNat);refine bn 5 0 32 36 [] [(36,(aG [(sL (cA (e1 z.toNat) 0) (c.blocks.getD z.toNat default).ins.length (cK (e1 z.toNat) 0)),(iI (c.blocks.getD z.toNat default).fin),(iI (c.blocks.getD z.toNat default).reg),(iI (c.blocks.getD z.toNat default).tgt),(iI (c.blocks.getD z.toNat default).els)]))] (Hr_ 1 0 (Ha_ (Sv.ix (j:=z) (SR.sv a_ b2)) (Hl_ 4 (qn 43 0 5 (BlkT.vw (f2 z.toNat)) V V V V) Hn_))) b2 V V fun _=>zc (ma.rsucc_c ex (c.blocks.getD z.toNat default) (HS.call b2) g7 M M M M hT) ?_
   rintro _ kn ⟨et,f9,k8,g9,b7,dl,rfl,b5,rfl⟩;replace dl:=HS.back b2 V dl;refine za (sL et (bo (c.blocks.getD z.toNat default)).length f9) (ae 3 V (wT 2 [] 1 0 [10] [(10,(iI 0))] V fun _=>ah (fun(mm:Nat) f H'=> ∃(o:List Int) (q:Nat) (al:Option Addr) (an:Nat) (F':Fz),Fz.le g9 F'/\HS (Base.of H []) F' H' [g3,a4,a5] R/\SR F' (sL al o.length an) o/\aA f [(1,(pT b1 0)),(4,(sL T I2.length U)),(5,(sL A O2.length N)),(6,(.bool m2)),(7,(iI z)),(8,(sL al o.length an)),(9,(sL et (bo (c.blocks.getD z.toNat default)).length f9)),(10,(iI (q:Int)))]/\mm=(bo (c.blocks.getD z.toNat default)).length-q/\(Lst o (uS c I2 z.toNat q))/\(q<=(bo (c.blocks.getD z.toNat default)).length)) _ ⟨([]:List Int),0,none,0,_,fR,dl,(SR.nil:SR g9 (sL none 0 0) ([]:List Int)),⟨V,V,V,V,V,V,V,V,trivial⟩,V,(uS_zero),M⟩ ?_));rintro jb k5 ko ⟨o,q,al,an,jw,a7,ag,a3,fi,rfl,ho,hq⟩ hn;refine ap _ fi (fun _=>?_);clear fi;replace hT:=(hT.mono b7).mono a7;replace a_:=(a_.mono b7).mono a7;replace b5:=b5.mono a7;replace E:=(E.mono b7).mono a7;replace Z:=(Z.mono b7).mono a7;have iz:=succ_len (b:=(c.blocks.getD z.toNat default));refine aj 2 V (wT 1 [] 38 41 [] [(41,(.bool (decide ((q:Int)<((bo (c.blocks.getD z.toNat default)).length:Int)))))] V fun _=>zd 3 5 (fun hA=>?_) fun hA=>?_)
   ·have i1:=i8 (l:=bo (c.blocks.getD z.toNat default)) (q:=q) M;have gb:=vF.succ z.toNat b4 _ i1;have np:=Lst.len ho mY.1 (fun r h=>uS_lt vF a6 h);have nn:((I2.getD ((bo (c.blocks.getD z.toNat default)).getD q 0).toNat default).length:Int)<=c.regs:=(rsn_len vF a6 ((bo (c.blocks.getD z.toNat default)).getD q 0).toNat).1;refine aa ?_;obtain⟨h4,f3⟩:=Sv.view (SR.sv b5 ag);have k6:=fI (f3 q);obtain⟨e2,f4⟩:=Sv.view (OS.sv E ag (i:=1) V);have hG:=fL (f4 ((bo (c.blocks.getD z.toNat default)).getD q 0).toNat);refine cj 8 0 44 51 [] [(44,(sL al o.length an)),(51,(sL (cA (e2 ((bo (c.blocks.getD z.toNat default)).getD q 0).toNat) 0) (I2.getD ((bo (c.blocks.getD z.toNat default)).getD q 0).toNat default).length (cK (e2 ((bo (c.blocks.getD z.toNat default)).getD q 0).toNat) 0)))] (Ha_ (Sv.ix (j:=(q:Int)) (SR.sv b5 ag)) (Hl_ 5 (ql 3 0 (vI (f3 q)) V V) (Ha_ (Sv.ix (j:=((bo (c.blocks.getD z.toNat default)).getD q 0)) (OS.sv E ag (i:=1) V)) (Hl_ 7 (ql 22 0 (vL (f4 ((bo (c.blocks.getD z.toNat default)).getD q 0).toNat)) V V) Hn_)))) (by kernel_rfl) V fun _=>zc (ma.fp ex o (I2.getD ((bo (c.blocks.getD z.toNat default)).getD q 0).toNat default) (HS.call ag) a3 hG hT M) ?_
    rintro _ kr ⟨ez,go,k9,kc,he,dn,rfl,g6,rfl⟩;replace dn:=HS.back ag V dn;refine za (sL ez (da o (I2.getD ((bo (c.blocks.getD z.toNat default)).getD q 0).toNat default)).length go) (ae 2 V (wU 1 [] 42 43 [10] [(10,(iI ((q:Int)+1)))] (vi (n:=(q:Int)+1)) V fun _=>?_));refine hn _ _ _ ?_ ⟨da o (I2.getD ((bo (c.blocks.getD z.toNat default)).getD q 0).toNat default),q+1,ez,go,_,(fT (a7) he),dn,g6,⟨V,V,V,V,V,V,V,V,trivial⟩,V,(uS_step a6 (show q<(bo (c.blocks.getD z.toNat default)).length by omega) ho),M⟩;omega
   refine aa ?_;obtain⟨e3,f5⟩:=Sv.view (SR.sv a_ ag);obtain⟨hQ,hR,hS,hV,g8⟩:=BlkT.fx (f5 z.toNat);refine bn 6 0 53 58 [] [(57,(aG [(sL (cA (e3 z.toNat) 0) (c.blocks.getD z.toNat default).ins.length (cK (e3 z.toNat) 0)),(iI (c.blocks.getD z.toNat default).fin),(iI (c.blocks.getD z.toNat default).reg),(iI (c.blocks.getD z.toNat default).tgt),(iI (c.blocks.getD z.toNat default).els)])),(58,(sL al o.length an))] (Hr_ 1 0 (Ha_ (Sv.ix (j:=z) (SR.sv a_ ag)) (Hl_ 4 (qn 43 0 5 (BlkT.vw (f5 z.toNat)) V V V V) Hn_))) ag V V fun _=>zc (mh.rpoints_c ex (c.blocks.getD z.toNat default) o (HS.call ag) g8 M M M M a3 hT (⟨_,rpo_of vF a6 b4 mW ho⟩)) ?_
   rintro _ kt ⟨h3,i2,cc,k7,kd,c3,ar,rfl,d2,h7⟩;replace ar:=HS.back ag V ar;replace E:=E.mono c3;replace Z:=Z.mono c3;replace a3:=a3.mono c3;obtain⟨bl,f6⟩:=Sv.view (OS.sv d2 ar (i:=3) V);have hH:=fL (f6 0);refine cj 3 7 60 61 [11] [(11,(sL (cA (bl 0) 0) (cc.getD 0 default).length (cK (bl 0) 0)))] (Ha_ (Sv.ix (j:=0) (OS.sv d2 ar (i:=3) V) e_ (by(have hq:=RpF.len X;omega))) (Hl_ 8 (ql 22 0 (vL (f6 0) (by(have hq:=RpF.len X;omega))) V V) Hn_)) (by kernel_rfl) V fun _=>ae 2 V ?_
   obtain⟨h5,f7⟩:=Sv.view (OS.sv Z ar (i:=2) V);have la:=fL (f7 z.toNat);obtain⟨h6,f8⟩:=Sv.view (OS.sv E ar (i:=1) V);have lf:=fL (f8 z.toNat);refine wrp 1 62 82 [6] [(6,(.bool ((m2||((o.length:Int) !=((O2.getD z.toNat default).length:Int)))||(((cc.getD 0 default).length:Int) !=((I2.getD z.toNat default).length:Int)))))] (Ha_ (fun(g1:m2=false)=>(Sv.ix (j:=z) (OS.sv Z ar (i:=2) V) (by(try simp only[BS]at g1);(first|(dsimp only;omega)|omega|(have hq:=RpF.len X;dsimp only at hq⊢;omega)|(have hq:=RpF.len X;omega))) (by(try simp only[BS]at g1);(first|(dsimp only;omega)|omega|(have hq:=RpF.len X;dsimp only at hq⊢;omega)|(have hq:=RpF.len X;omega))))) (bt 7 (fun g1=>(ql 22 0 (vL (f7 z.toNat) (by(try simp only[BS]at g1);(first|(dsimp only;omega)|omega|(have hq:=RpF.len X;dsimp only at hq⊢;omega)|(have hq:=RpF.len X;omega)))) V V)) (Ha_ (fun(g1:(m2||((o.length:Int) !=((O2.getD z.toNat default).length:Int)))=false)=>(Sv.ix (j:=z) (OS.sv E ar (i:=1) V) (by(try simp only[BS]at g1);(first|(dsimp only;omega)|omega|(have hq:=RpF.len X;dsimp only at hq⊢;omega)|(have hq:=RpF.len X;omega))) (by(try simp only[BS]at g1);(first|(dsimp only;omega)|omega|(have hq:=RpF.len X;dsimp only at hq⊢;omega)|(have hq:=RpF.len X;omega))))) (bt 17 (fun g1=>(ql 22 0 (vL (f8 z.toNat) (by(try simp only[BS]at g1);(first|(dsimp only;omega)|omega|(have hq:=RpF.len X;dsimp only at hq⊢;omega)|(have hq:=RpF.len X;omega)))) V V)) Hn_)))) V V fun _=>aa (cj 7 0 83 89 [] [(85,(sL A O2.length N)),(86,(iI z)),(87,(sL (cA (bl 0) 0) (cc.getD 0 default).length (cK (bl 0) 0))),(88,(sL al o.length an)),(89,(.pointer (some ⟨sB (sL T I2.length U),sO (sL T I2.length U)+z.toNat *Rp.sz (List Int),none⟩)))] (Ha_ (Sv.ix (j:=z) (OS.sv E ar (i:=1) V)) Hn_) (by kernel_rfl) V fun _=>d5 (cy (α:=(List Int)) (j:=z.toNat) (off:=0) (q:=1) (cc.getD 0 default) E ar V V V V V V V V (aT (x:=default) M) V (by rintro cs ⟨_,_,rfl,_⟩;exact⟨a06 V,⟨(cA (bl 0) 0),(cK (bl 0) 0),V,hH⟩⟩)) V ?_)
   rintro _ kz hE ⟨c8,f1,_⟩;have hW:=OS.len' c8;refine cj 1 8 90 90 [] [(90,(.pointer (some ⟨sB (sL A O2.length N),sO (sL A O2.length N)+z.toNat *Rp.sz (List Int),none⟩)))] (Ha_ (Sv.ix (j:=z) (OS.sv Z f1 (i:=2) V)) Hn_) (by kernel_rfl) V fun _=>d5 (cy (α:=(List Int)) (j:=z.toNat) (off:=0) (q:=2) o Z f1 V V V V V V V V (aT (x:=default) M) V (by rintro cs ⟨_,_,rfl,_⟩;exact⟨a06 V,⟨al,an,V,a3⟩⟩)) V ?_
   rintro _ k0 hF ⟨c9,hg,_⟩;have hX:=OS.len' c9;refine ae 2 V (wU 1 [] 30 31 [7] [(7,(iI (z-1)))] (vi (n:=z-1)) V fun _=>?_);have gb:=stp_of (I:=I2) (O:=O2) (show(bo (c.blocks.getD z.toNat default)).length<=q by omega) ho X;have fz:=mv a6 b4 gb hD ha V;refine hl _ _ _ ?_ ⟨z-1,((m2||((o.length:Int) !=((O2.getD z.toNat default).length:Int)))||(((cc.getD 0 default).length:Int) !=((I2.getD z.toNat default).length:Int))),I2.set z.toNat (cc.getD 0 default),O2.set z.toNat o,T,U,hE,A,N,hF,_,(fT (fT (fT (c0) b7) a7) c3),(HS.sub hg (a02 _ _)),(OS.norm c8),(OS.norm c9),(agC V (agC (show Value.slice T I2.length U=Value.slice T (I2.set z.toNat (cc.getD 0 default)).length U by rw[OS.len' c8]) (agC (show Value.slice A O2.length N=Value.slice A (O2.set z.toNat o).length N by rw[OS.len' c9]) ⟨V,V,trivial⟩))),V,(rsn_set a6 b4 gb),M,(fz.1),(fz.2.1),(fun h b h1 h2=>fz.2.2 h (fun hm b h1=>hcl hm b M) b M h2)⟩;omega
  refine hk _ _ _ ?_ ⟨m2,I2,O2,T,U,a4,A,N,a5,_,(fT (co) c0),b2,E,Z,⟨V,V,V,V,trivial⟩,V,(a6),(fun h b hb=>hcl h b M hb)⟩;rw[mX];exact mea_lt ha (cnt2_le vF a6)
 try simp only[BS]at dv
 refine wT 1 [] 2 3 [91,92] [(2,(sL aw I1.length a1)),(3,(sL a0 O1.length a2))] V fun _=>?_
 obtain⟨kg,e4,hh,dd,it⟩:=OS.frz c6 dk (i:=1) V;replace a9:=a9.mono e4;obtain⟨ki,e5,hj,hf,iv⟩:=OS.frz a9 hh (i:=2) V;replace dd:=dd.mono e5;refine am ⟨.inr V,_,V,aw,a1,I1,a0,a2,O1,_,(fT (fT (fT (d1) co) e4) e5),(HS.forget hj),V,dd,hf,(fun _=>bkf_of ea (cl X)),(fun h=>absurd (hv.symm.trans h) e_)⟩
end Go.Proofs.YtgdggmlghemecaaDoor.mi
