/-
Live registers: the reference solution of the equations. No condition but bounds on lengths.
-/
import Derived.Test.YtknafdcgpaejlaaDoorZFMH
noncomputable section
namespace Go.Proofs.YtknafdcgpaejlaaDoor.mi
open Go.R
set_option maxRecDepth 10000
set_option linter.unusedVariables false
set_option linter.unusedSimpArgs false
variable (ex:FuncId) {F:Fz} {H:Heap} {R:List Fp}
open m1 m2 m3 m4 m5 m6 ma ml mb mc md mf mg mh
abbrev cU(l:List (List Int))(b:Nat):List Int:=l.getD b default
structure RSn(c:VFnT)(I O:List (List Int)):Prop where
 li:I.length=c.blocks.length
 lo:O.length=c.blocks.length
 ai: ∀b,Asc (cU I b)
 ao: ∀b,Asc (cU O b)
 si: ∀b,∀x∈cU I b,0<=x/\LIn c b x.toNat
 so: ∀b,∀x∈cU O b,0<=x/\kX c b x.toNat
 mo: ∀b,b<c.blocks.length->∀r,oS (cU O b) r->outS c (fun t r=>oS (cU I t) r) b r
 mi: ∀b,b<c.blocks.length->∀r,oS (cU I b) r->inS (aR c b) (oS (cU O b)) r
theorem rsn_zero{c:VFnT}{n:Nat}(h:n=c.blocks.length):RSn c (List.replicate n []) (List.replicate n []):=by
 have e: ∀b,cU (List.replicate n ([]:List Int)) b=[]:=fun b=>by unfold cU;rw[a01,a0R];split<;>rfl
 have no: ∀b r,¬oS (cU (List.replicate n ([]:List Int)) b) r:=fun b r h=>by rw[e]at h;cases h
 exact⟨by simp[h],by simp[h],fun b=>by rw[e];exact List.Pairwise.nil,fun b=>by rw[e];exact List.Pairwise.nil,fun b x z=>by(rw[e]at z;cases z),fun b x z=>by(rw[e]at z;cases z),fun b _ r h=>absurd h (no b r),fun b _ r h=>absurd h (no b r)⟩
theorem cE{l:List (List Int)}{b z:Nat}{x:List Int}(A:b<l.length):cU (l.set b x) z=if b=z then x else cU l z:=by
 unfold cU;rw[b8];by_cases h:b=z
 ·subst h;rw[if_pos ⟨rfl,A⟩,if_pos rfl]
 rw[if_neg (fun e=>h e.1),if_neg h]
theorem lR: ∀{b a:List Int},Asc a->Asc b->(∀x∈a,x∈b)->a.Sublist b
 | [],[],_,_,_=>List.Sublist.refl _
 | [],x::a,_,_,h=>absurd (h x (a0r ..)) a0b
 |y::b,[],_,_,_=>List.nil_sublist _
 |y::b,x::a,ha,hb,h=>by
  have E:=a1p.1 ha;have N:=a1p.1 hb;by_cases e:x=y
  ·subst e;refine List.Sublist.cons_cons _ (lR E.2 N.2 fun z T=>?_);rcases a0m.1 (h z (a0h _ T)) with e|e
   ·subst e;have:=E.1 z T;omega
   exact e
  have U:x∈b:=by
   rcases a0m.1 (h x (a0r ..)) with e'|e'
   ·exact absurd e' e
   exact e'
  have V:=N.1 x U;refine List.Sublist.cons _ (lR ha N.2 fun z T=>?_);rcases a0m.1 (h z T) with e'|e'
  ·rcases a0m.1 T with A|A
   ·exact absurd (A.symm.trans e') e
   have:=E.1 z A;omega
  exact e'
theorem kT{a b:List Int}(z:Asc a)(A:Asc b)(h: ∀x∈a,x∈b)(E:b.length=a.length):a=b:=(lR z A h).eq_of_length E.symm
theorem j1{a b:List Int}(z:Asc a)(A:Asc b)(h: ∀x∈a,x∈b):a.length<=b.length:=(lR z A h).length_le
theorem Lst.ext{l:List Int}{S S':Nat->Prop}(h:Lst l S)(hs: ∀r,S r↔S' r):Lst l S':=⟨h.asc,fun x=>by rw[h.mem,hs]⟩
def uS(c:VFnT)(I:List (List Int))(b q r:Nat):Prop:= ∃t∈(bh (aR c b)).take q,oS (cU I t.toNat) r
theorem uS_zero{c:VFnT}{I:List (List Int)}{b:Nat}:Lst [] (uS c I b 0):=Lst.nil fun r ⟨t,h,_⟩=>by simp at h
theorem RSn.lstI{c:VFnT}{I O:List (List Int)}(h:RSn c I O)(b:Nat):Lst (cU I b) (oS (cU I b)):=⟨h.ai b,fun x=>⟨fun z=>⟨(h.si b x z).1,by unfold oS;rwa [a14 (h.si b x z).1]⟩,fun z=>by have A:=z.2;unfold oS at A;rwa [a14 z.1]at A⟩⟩
theorem uS_step{c:VFnT}{I O:List (List Int)}{b q:Nat}{o:List Int}(hs:RSn c I O)(z:q<(bh (aR c b)).length)(h:Lst o (uS c I b q)):Lst (cH o (cU I ((bh (aR c b)).getD q 0).toNat)) (uS c I b (q+1)):=by
 refine Lst.ext (Lst.union h (hs.lstI _)) fun r=>?_
 unfold uS;rw[bt z (d:=0)];constructor
 ·rintro(⟨t,A,E⟩|A)
  ·exact⟨t,a07.2 (.inl A),E⟩
  exact⟨_,a07.2 (.inr (a0d.2 rfl)),A⟩
 rintro⟨t,A,E⟩;rcases a07.1 A with A|A
 ·exact .inl ⟨t,A,E⟩
 rw[a0d]at A;subst A;exact .inr E
theorem uS_all{c:VFnT}{I:List (List Int)}{b q r:Nat}(z:(bh (aR c b)).length<=q):uS c I b q r↔outS c (fun t r=>oS (cU I t) r) b r:=by unfold uS outS;rw[a0i z]
theorem uS_in{c:VFnT}{I O:List (List Int)}{b q r:Nat}(hs:RSn c I O)(h:uS c I b q r):kX c b r:=by obtain⟨t,A,E⟩:=h;refine⟨t,a1s A,?_⟩;have:=hs.si _ _ E;exact this.2
theorem uS_lt{c:VFnT}(v:VF c){I O:List (List Int)}{b q r:Nat}(hs:RSn c I O)(h:uS c I b q r):(r:Int)<c.regs:=ij v (uS_in hs h)
theorem rpo_of{c:VFnT}(v:VF c){I O:List (List Int)}{b q:Nat}{o:List Int}(hs:RSn c I O)(N:b<c.blocks.length)(V:(aR c b).ins.length<=1073741824)(T:Lst o (uS c I b q)):RpO (aR c b) o c.regs:=by
 refine⟨v.regs,V,fun i hi=>bu (v.ins b N i hi),fun x z=>?_,T.asc,fun x z=>?_⟩
 ·unfold dE at z;split at z
  ·rename_i U;rw[a0d]at z;have:=v.fin b N U;omega
  cases z
 have A:=(T.mem x).1 z;have E:=uS_lt v hs A.2;omega
theorem rpo_out{c:VFnT}(v:VF c){b:Nat}{o:List Int}(N:b<c.blocks.length)(V:(aR c b).ins.length<=1073741824)(T:Lst o (kX c b)):RpO (aR c b) o c.regs:=by
 refine⟨v.regs,V,fun i hi=>bu (v.ins b N i hi),fun x z=>?_,T.asc,fun x z=>?_⟩
 ·unfold dE at z;split at z
  ·rename_i U;rw[a0d]at z;have:=v.fin b N U;omega
  cases z
 have A:=(T.mem x).1 z;have E:=ij v A.2;omega
theorem jI{l:List Int}{S:Nat->Prop}(h:Lst l S)(r:Nat):oS l r↔S r:=by unfold oS;rw[h.mem];exact⟨fun h=>by simpa using h.2,fun h=>⟨by omega,by simpa using h⟩⟩
structure Stp(c:VFnT)(I O:List (List Int))(b:Nat)(o i:List Int):Prop where
 lo:Lst o (outS c (fun t r=>oS (cU I t) r) b)
 li:Lst i (inS (aR c b) (oS o))
theorem stp_of{c:VFnT}{I O:List (List Int)}{b q:Nat}{o:List Int}{l:List (List Int)}(E:(bh (aR c b)).length<=q)(A:Lst o (uS c I b q))(z:RpF (aR c b) o l):Stp c I O b o (cU l 0):=
 ⟨Lst.ext A fun r=>uS_all E,Lst.ext (z.pt 0 (a0D _)) fun r=>Iff.rfl⟩
theorem stp_sub{c:VFnT}{I O:List (List Int)}{b:Nat}{o i:List Int}(h:RSn c I O)(N:b<c.blocks.length)(s:Stp c I O b o i):(∀x∈cU O b,x∈o)/\(∀x∈cU I b,x∈i):=by
 have E: ∀r,oS (cU O b) r->oS o r:=fun r T=>(jI s.lo r).2 (h.mo b N r T)
 refine⟨fun x z=>?_,fun x z=>?_⟩
 ·have A:=(h.so b x z).1;have:=E x.toNat (by unfold oS;rwa [a14 A]);unfold oS at this;rwa [a14 A]at this
 have A:=(h.si b x z).1;have:=h.mi b N x.toNat (by unfold oS;rwa [a14 A]);exact(s.li.mem x).2 ⟨A,eZ E _ this⟩
theorem rsn_set{c:VFnT}{I O:List (List Int)}{b:Nat}{o i:List Int}(h:RSn c I O)(hb:b<c.blocks.length)(s:Stp c I O b o i):RSn c (I.set b i) (O.set b o):=by
 obtain⟨so,si⟩:=stp_sub h hb s;have ad:b<I.length:=by rw[h.li];exact hb
 have ag:b<O.length:=by rw[h.lo];exact hb
 have mI: ∀t r,oS (cU I t) r->oS (cU (I.set b i) t) r:=fun t r z=>by
  rw[cE ad];split
  ·rename_i e;subst e;exact si _ z
  exact z
 refine⟨by rw[a0g];exact h.li,by rw[a0g];exact h.lo,fun V=>?_,fun V=>?_,fun V x Z=>?_,fun V x Z=>?_,fun V al r z=>?_,fun V al r z=>?_⟩
 ·rw[cE ad];split
  ·exact s.li.asc
  exact h.ai V
 ·rw[cE ag];split
  ·exact s.lo.asc
  exact h.ao V
 ·rw[cE ad]at Z;split at Z
  ·rename_i e;subst e;obtain⟨A,U⟩:=(s.li.mem x).1 Z;refine⟨A,l6 c b hb _ (eZ (fun r z=>?_) _ U)⟩;obtain⟨t,E,N⟩:=(jI s.lo r).1 z;have T:=h.si _ _ N;exact⟨t,E,T.2⟩
  exact h.si V x Z
 ·rw[cE ag]at Z;split at Z
  ·rename_i e;subst e;obtain⟨A,t,E,N⟩:=(s.lo.mem x).1 Z;have T:=h.si _ _ N;exact⟨A,t,E,T.2⟩
  exact h.so V x Z
 ·rw[cE ag]at z;split at z
  ·rename_i e;subst e;exact gM (fun t r=>mI t r) _ _ ((jI s.lo r).1 z)
  exact gM (fun t r=>mI t r) _ _ (h.mo V al r z)
 rw[cE ad]at z;rw[cE ag];split at z
 ·rename_i e;subst e;rw[if_pos rfl];exact(jI s.li r).1 z
 rename_i e;rw[if_neg e];exact h.mi V al r z
def cntL(I:List (List Int)):Nat:=(I.map List.length).sum
theorem cntL_set{I:List (List Int)}{b:Nat}(z:b<I.length)(s:List Int):cntL (I.set b s)+(cU I b).length=cntL I+s.length:=by unfold cntL cU;rw[List.map_set];have:=sum_set (I.map List.length) b s.length (by rw[a1B];exact z);rw[a01,a1h,a05 z]at this;rw[a01,a05 z];exact this
theorem cntL_le{l:List (List Int)}{B:Nat}(h: ∀b,(cU l b).length<=B):cntL l<=l.length*B:=by
 unfold cntL;have key: ∀(l:List (List Int)),(∀s∈l,s.length<=B)->(l.map List.length).sum<=l.length*B:=by
  intro l;induction l with
  |nil=>intro _;simp
  |cons s l ih=>
   intro h
   have A:=ih fun x N=>h x (a0h _ N)
   have E:=h s (a0r ..)
   rw[List.map_cons,List.sum_cons,a08,a1m];omega
 refine key l fun s hs=>?_
 obtain⟨b,z,rfl⟩:=a0B.1 hs;have:=h b;unfold cU at this;rwa [a01,a05 z]at this
def cnt2(I O:List (List Int)):Nat:=cntL I+cntL O
theorem rsn_len{c:VFnT}(v:VF c){I O:List (List Int)}(h:RSn c I O)(b:Nat):((cU I b).length:Int)<=c.regs/\((cU O b).length:Int)<=c.regs:=by
 have N:=v.regs;constructor
 ·have:=j2 (m:=c.regs) 0 N.1 (h.ai b) fun x z=>by obtain⟨A,E⟩:=h.si b x z;have:=lin_lt v E;exact⟨A,by omega⟩
  omega
 have:=j2 (m:=c.regs) 0 N.1 (h.ao b) fun x z=>by obtain⟨A,E⟩:=h.so b x z;have:=ij v E;exact⟨A,by omega⟩
 omega
theorem cnt2_le{c:VFnT}(v:VF c){I O:List (List Int)}(h:RSn c I O):cnt2 I O<=c.blocks.length*6000:=by
 have z:=v.regs;have A:=cntL_le (l:=I) (B:=3000) fun b=>by have:=(rsn_len v h b).1;omega
 have E:=cntL_le (l:=O) (B:=3000) fun b=>by have:=(rsn_len v h b).2;omega
 rw[h.li]at A;rw[h.lo]at E;unfold cnt2;omega
def CL(c:VFnT)(I O:List (List Int))(b:Nat):Prop:=(∀r,outS c (fun t r=>oS (cU I t) r) b r->oS (cU O b) r)/\∀r,inS (aR c b) (oS (cU O b)) r->oS (cU I b) r
theorem stp_same{c:VFnT}{I O:List (List Int)}{b:Nat}{o i:List Int}(h:RSn c I O)(U:b<c.blocks.length)(s:Stp c I O b o i)(N:(o.length:Int)=((cU O b).length:Int))(T:(i.length:Int)=((cU I b).length:Int)):I.set b i=I/\O.set b o=O/\CL c I O b:=by
 obtain⟨Z,V⟩:=stp_sub h U s;have A:=kT (h.ao b) s.lo.asc Z (by omega);have E:=kT (h.ai b) s.li.asc V (by omega);refine⟨by rw[←E];exact en _ _,by rw[←A];exact en _ _,fun r z=>?_,fun r z=>?_⟩
 ·rw[A];exact(jI s.lo r).2 z
 rw[A]at z;rw[E];exact(jI s.li r).2 z
theorem stp_more{c:VFnT}{I O:List (List Int)}{b:Nat}{o i:List Int}(h:RSn c I O)(z:b<c.blocks.length)(s:Stp c I O b o i):cnt2 I O<=cnt2 (I.set b i) (O.set b o)/\(((o.length:Int)≠((cU O b).length:Int)\/(i.length:Int)≠((cU I b).length:Int))->cnt2 I O<cnt2 (I.set b i) (O.set b o)):=by obtain⟨V,U⟩:=stp_sub h z s;have A:=j1 (h.ao b) s.lo.asc V;have E:=j1 (h.ai b) s.li.asc U;have N:=cntL_set (I:=I) (b:=b) (by rw[h.li];exact z) i;have T:=cntL_set (I:=O) (b:=b) (by rw[h.lo];exact z) o;unfold cnt2;exact⟨by omega,fun h=>by omega⟩
theorem mv{c:VFnT}{I O A E:List (List Int)}{b:Nat}{o i:List Int}{m2 m':Bool}(h:RSn c I O)(hb:b<c.blocks.length)(s:Stp c I O b o i)(U:m2=false->I=A/\O=E)(V:m2=true->cnt2 A E<cnt2 I O)
  (e:m'=((m2||((o.length:Int) !=((O.getD b default).length:Int)))||((i.length:Int) !=((I.getD b default).length:Int)))):(m'=false->I.set b i=A/\O.set b o=E)/\(m'=true->cnt2 A E<cnt2 (I.set b i) (O.set b o))/\(m'=false->(m2=false->∀z:Nat,b<z->z<c.blocks.length->CL c I O z)->∀z:Nat,b<=z->z<c.blocks.length->CL c (I.set b i) (O.set b o) z):=by
 have hm:=stp_more h hb s
 have key:m'=false->m2=false/\(o.length:Int)=((cU O b).length:Int)/\(i.length:Int)=((cU I b).length:Int):=fun hf=>by rw[e]at hf;simp only[a0O,bne_eq_false_iff_eq]at hf;exact⟨hf.1.1,hf.1.2,hf.2⟩
 refine⟨fun hf=>?_,fun ht=>?_,fun hf hc z h2 h3=>?_⟩
 ·obtain⟨k1,k2,Z⟩:=key hf;obtain⟨N,T,_⟩:=stp_same h hb s k2 Z;rw[N,T];exact U k1
 ·rw[e]at ht;simp only[a0G,bne_iff_ne]at ht;rcases ht with(ht|ht)|ht
  ·have:=V ht;omega
  ·have:=hm.2 (.inl ht);cases m2 with
   |false=>obtain⟨rfl,rfl⟩:=U rfl;exact this
   |true=>have:=V rfl;omega
  have:=hm.2 (.inr ht);cases m2 with
  |false=>obtain⟨rfl,rfl⟩:=U rfl;exact this
  |true=>have:=V rfl;omega
 obtain⟨k1,k2,Z⟩:=key hf
 obtain⟨N,T,e3⟩:=stp_same h hb s k2 Z
 rw[N,T]
 rcases a1Y h2 with e'|e'
 ·subst e';exact e3
 exact hc k1 z e' h3
theorem bkf_of{c:VFnT}{I O:List (List Int)}(h:RSn c I O)(hc: ∀b,b<c.blocks.length->CL c I O b):BkF c I O:=by
 have T:Clo c (fun b r=>oS (cU I b) r):=fun b z r Z=>(hc b z).2 r (eZ (fun q V=>(hc b z).1 q V) r Z)
 refine⟨h.li,h.lo,fun b z=>⟨h.ai b,fun x=>⟨h.si b x,fun U=>?_⟩⟩,fun b z=>⟨h.ao b,fun x=>⟨h.so b x,fun U=>?_⟩⟩⟩
 ·have:=U.2 _ T;unfold oS at this;rwa [a14 U.1]at this
 obtain⟨A,t,E,N⟩:=U;have:=(hc b z).1 x.toNat ⟨t,E,N _ T⟩;unfold oS at this;rwa [a14 A]at this
theorem ptf_of{c:VFnT}{b:Nat}{o:List Int}{l:List (List Int)}(A:Lst o (kX c b))(h:RpF (aR c b) o l):PtF c b l:=by
 refine⟨h.len,fun i hi=>Lst.ext (h.pt i hi) fun r=>?_⟩;unfold rpS ptS;have e: ∀r,oS o r↔kX c b r:=jI A;constructor
 ·exact ln (fun q z=>z.imp (e q).1 id) _ r
 exact ln (fun q z=>z.imp (e q).2 id) _ r
set_option maxHeartbeats 2000000 in
theorem rblocks_c{a5:Option Addr}{a7:Nat}(c:VFnT)(hs:HS (.of H []) F H [] R)(iv:in64 c.params)(iz:in64 c.regs)(V:SR F (sL a5 c.blocks.length a7) c.blocks)(hT:TB 37 tabC F)(hd: ∀j,(c.blocks.getD j default).ins.length<=1073741824):kKt ex 32 [(aG [(iI c.params),(iI c.regs),(sL a5 c.blocks.length a7)])] H fun v H'=> ∃(ax:Option Addr) (kx:Nat) (x:List (List Int)) (ay:Option Addr) (ky:Nat) (y:List (List Int)) (F':Fz),Fz.le F F'/\HS (.of H []) F' H' [] R/\v= .tuple ⟨[sL ax x.length kx,sL ay y.length ky]⟩/\SR F' (sL ax x.length kx) x/\SR F' (sL ay y.length ky) y/\(bP c=true->BkF c x y)/\(bP c=false->x=[]/\y=[]):=by
 refine au Tryd.func32 rfl rfl (zf 1 (aa (az (aU hs rfl rfl) rfl rfl ?_)));rintro _ H2 _ ⟨b1,rfl,(f0:HS _ _ _ [(fP b1 [(iI c.params),(iI c.regs),(sL a5 c.blocks.length a7)])] _),_⟩;let hj:Value:=(aG [(iI c.params),(iI c.regs),(sL a5 c.blocks.length a7)])
 refine wTo 2 1 [] 2 3 [] [(2,(sL none 0 0)),(3,(sL none 0 0))] rfl fun _=>aD 3 rfl (aa (wUo 1 0 [(0,.o hj)] 12 12 [] [(12,hj)] (qn 24 0 3 (HS.hc f0 (i:=0) rfl) rfl rfl rfl rfl) rfl fun _=>zc (m3.fQ ex c (HS.call f0) (by omega) (by omega) V hT (fun j=>a0c (hd j) (by omega))) ?_))
 rintro _ H5 ⟨r5,F5,d1,ch,rfl,rfl⟩;replace ch:HS _ _ _ [_] _:=HS.back f0 rfl ch;replace hT:=hT.mono d1;replace V:=V.mono d1;refine wTo 1 2 [] 14 14 [] [(14,(.bool (!(bP c))))] rfl fun _=>aD 1 rfl (zi 1 2 (fun c7=>?_) fun c7=>?_)
 ·try simp only[BS]at c7
  have hv:=c7;refine wT 1 [] 2 3 [] [(2,(sL none 0 0)),(3,(sL none 0 0))] rfl fun _=>aj ⟨.inr rfl,_,rfl,none,0,([]:List (List Int)),none,0,([]:List (List Int)),_,(d1),(HS.forget ch),rfl,(SR.nil:SR F5 (sL none 0 0) ([]:List (List Int))),(SR.nil:SR F5 (sL none 0 0) ([]:List (List Int))),(fun h=>absurd (h.symm.trans hv) (by decide)),(fun _=>⟨rfl,rfl⟩)⟩
 try simp only[BS]at c7
 have hv:=c7;have vF:=eR hv;have mN:=vF.nb;have mB:=vF.regs;refine aI rfl (zp 2 (zl 2 (HS.hc ch.log0 (i:=0) rfl) (aF (v:=(iI (c.blocks.length:Int))) (id:= .v) (iA (α:=BlkT) rfl rfl (SR.sv V ch.log0)) rfl rfl (jU rfl) (ee _) (bG (id:= .x []) (cu ([]:(List Int)) ch.log0 rfl rfl rfl rfl rfl rfl rfl rfl rfl ⟨none,0,rfl,SR.nil⟩ (by omega) (by omega)) rfl rfl (by rintro _ _ p9 ⟨a9,k9,rfl,hf,_,hwr⟩;exact bE rfl rfl (Wr.did hwr)) (kb rfl) ?_))));rintro _ hG p9 ⟨a9,k9,rfl,hf,a6,_⟩ hC g5;replace a6:=HS.lg a6 ch g5;generalize ({hG with log:=hC}:Heap)=ib at a6⊢;have a6:HS _ _ _ [_,p9] _:=a6;refine wfv (v:=(pT b1 2)) (fJ rfl rfl) (aF (v:=(sL a5 c.blocks.length a7)) (id:= .l b1) (dX (i:=2) rfl rfl (HS.hc a6.log0 (i:=0) rfl) rfl rfl) rfl rfl (ce rfl) (⟨.inl rfl,⟨.inr a0b,⟨.inr trivial,⟨.inr trivial,⟨.inr trivial,trivial⟩⟩⟩⟩⟩) (aF (v:=(iI (c.blocks.length:Int))) (id:= .v) (iA (α:=BlkT) rfl rfl (SR.sv V a6.log0)) rfl rfl (jU rfl) (ee _) (bG (id:= .x []) (cu ([]:(List Int)) a6.log0 rfl rfl rfl rfl rfl rfl rfl rfl rfl ⟨none,0,rfl,SR.nil⟩ (by omega) (by omega)) rfl rfl (by rintro _ _ g3 ⟨em,f9,rfl,fi,_,hwr⟩;exact bE rfl rfl (Wr.did hwr)) (⟨.inl rfl,⟨.inl rfl,⟨.inl rfl,⟨.inr ⟨trivial,trivial⟩,⟨.inr trivial,⟨.inr a0b,⟨.inr trivial,trivial⟩⟩⟩⟩⟩⟩⟩) ?_)));rintro _ hH g3 ⟨em,f9,rfl,fi,b3,_⟩ hD g6;replace b3:=HS.lg b3 a6 g6;generalize ({hH with log:=hD}:Heap)=ih at b3⊢;have b3:HS _ _ _ [_,_,g3] _:=b3;let g4:Fp:=(fP b1 [(iI c.params),(iI c.regs),(sL a5 c.blocks.length a7)])
 refine fa (sL a9 (List.replicate c.blocks.length ([]:(List Int))).length k9) rfl rfl rfl (fa (sL em (List.replicate c.blocks.length ([]:(List Int))).length f9) rfl rfl rfl (bm (zf 3 (wT 2 [] 1 0 [6] [(6,(.bool true))] rfl fun _=>ah (fun(mm:Nat) f H'=> ∃(mo:Bool) (I1:List (List Int)) (O1:List (List Int)) (aw:Option Addr) (a1:Nat) (b2:Fp) (a0:Option Addr) (a2:Nat) (be:Fp) (F':Fz),Fz.le F5 F'/\HS (Base.of H []) F' H' [g4,b2,be] R/\OS F' (sL aw I1.length a1) I1 b2/\OS F' (sL a0 O1.length a2) O1 be/\am f [(1,(pT b1 0)),(4,(sL aw I1.length a1)),(5,(sL a0 O1.length a2)),(6,(.bool mo))]/\mm=mea mo (c.blocks.length*6000) (cnt2 I1 O1)/\(RSn c I1 O1)/\(mo=false->∀b,b<c.blocks.length->CL c I1 O1 b)) _ ⟨true,List.replicate c.blocks.length ([]:(List Int)),List.replicate c.blocks.length ([]:(List Int)),a9,k9,p9,em,f9,g3,_,fR,b3,hf,fi,⟨rfl,rfl,rfl,rfl,trivial⟩,rfl,(rsn_zero rfl),(by intro h;cases h)⟩ ?_))));rintro kc k8 kt ⟨mo,I1,O1,aw,a1,b2,a0,a2,be,hF,c0,dk,c5,b0,e6,rfl,ea,cl⟩ hw;refine ak _ e6 (fun _=>?_);clear e6;replace hT:=hT.mono c0;replace V:=V.mono c0;have i1:=ea.li;have i3:=ea.lo;refine aC 2 rfl (wT 1 [] 23 23 [] [(23,(.bool mo))] rfl fun _=>zi 3 5 (fun dv=>?_) fun dv=>?_)
 ·try simp only[BS]at dv
  have mA:=dv;refine wT 2 [] 1 0 [6] [(6,(.bool false))] rfl fun _=>wR 2 [(1,.o (sL a5 c.blocks.length a7))] 24 27 [7] [(7,(iI ((c.blocks.length:Int)-1)))] (vA (ql 22 2 (HS.hc dk (i:=0) rfl) rfl rfl) (vA (vi (n:=(c.blocks.length:Int)-1)) trivial)) rfl fun _=>ah (fun(mm:Nat) f H'=> ∃(z:Int) (m2:Bool) (I2:List (List Int)) (O2:List (List Int)) (T:Option Addr) (U:Nat) (a3:Fp) (A:Option Addr) (N:Nat) (a4:Fp) (F':Fz),Fz.le hF F'/\HS (Base.of H []) F' H' [g4,a3,a4] R/\OS F' (sL T I2.length U) I2 a3/\OS F' (sL A O2.length N) O2 a4/\am f [(1,(pT b1 0)),(4,(sL T I2.length U)),(5,(sL A O2.length N)),(6,(.bool m2)),(7,(iI z))]/\mm=(z+1).toNat/\(RSn c I2 O2)/\(-1<=z/\z<(c.blocks.length:Int))/\(m2=false->I2=I1/\O2=O1)/\(m2=true->cnt2 I1 O1<cnt2 I2 O2)/\(m2=false->∀b:Nat,z<(b:Int)->b<c.blocks.length->CL c I2 O2 b)) _ ⟨(c.blocks.length:Int)-1,false,I1,O1,aw,a1,b2,a0,a2,be,_,fR,dk,c5,b0,⟨rfl,rfl,rfl,rfl,rfl,trivial⟩,rfl,(ea),(by omega),(fun _=>⟨rfl,rfl⟩),(by intro h;cases h),(by intro _ b h1 h2;omega)⟩ ?_
  rintro kd la kz ⟨z,m2,I2,O2,T,U,a3,A,N,a4,ki,c3,b4,E,Z,e9,rfl,bk,hbz,hR,he,hcl⟩ hz;refine ak _ e9 (fun _=>?_);clear e9;replace hT:=hT.mono c3;replace V:=V.mono c3;have i2:=bk.li;have ja:=bk.lo;refine aC 2 rfl (wT 1 [] 28 29 [] [(29,(.bool (decide ((0:Int)<=z))))] rfl fun _=>zd 4 5 (fun hI=>?_) fun hI=>?_)
  ·have fz:z.toNat<c.blocks.length:=by omega
   have mz:=hd z.toNat;refine wT 2 [] 1 0 [8] [(8,(sL none 0 0))] rfl fun _=>aa ?_
   obtain⟨e0,f2⟩:=Sv.view (SR.sv V b4);obtain⟨hX,hY,h0,h3,g8⟩:=BlkT.fx (f2 z.toNat);let hk:Value:=(aG [(sL (cA (e0 z.toNat) 0) (c.blocks.getD z.toNat default).ins.length (cK (e0 z.toNat) 0)),(iI (c.blocks.getD z.toNat default).fin),(iI (c.blocks.getD z.toNat default).reg),(iI (c.blocks.getD z.toNat default).tgt),(iI (c.blocks.getD z.toNat default).els)])
   refine wRo 5 0 [(1,.o (sL a5 c.blocks.length a7)),(4,.o hk)] 32 36 [] [(36,hk)] (vA (ql 22 2 (HS.hc b4 (i:=0) rfl) rfl rfl) (vA (Sv.ix (j:=z) (SR.sv V b4)) (vA (qn 48 0 5 (BlkT.vw (f2 z.toNat)) rfl rfl rfl rfl) trivial))) rfl fun _=>zc (ma.rsucc_c ex (c.blocks.getD z.toNat default) (HS.call b4) g8 (by omega) (by omega) (by omega) (by omega) hT) ?_
   rintro _ k0 ⟨et,go,lr,ha,cc,dl,rfl,b9,rfl⟩;replace dl:HS _ _ _ [_,a3,a4] _:=HS.back b4 rfl dl;refine za (sL et (bh (c.blocks.getD z.toNat default)).length go) (ze 3 (wT 2 [] 1 0 [10] [(10,(iI 0))] rfl fun _=>ah (fun(mm:Nat) f H'=> ∃(o:List Int) (q:Nat) (al:Option Addr) (an:Nat) (F':Fz),Fz.le ha F'/\HS (Base.of H []) F' H' [g4,a3,a4] R/\SR F' (sL al o.length an) o/\am f [(1,(pT b1 0)),(4,(sL T I2.length U)),(5,(sL A O2.length N)),(6,(.bool m2)),(7,(iI z)),(8,(sL al o.length an)),(9,(sL et (bh (c.blocks.getD z.toNat default)).length go)),(10,(iI (q:Int)))]/\mm=(bh (c.blocks.getD z.toNat default)).length-q/\(Lst o (uS c I2 z.toNat q))/\(q<=(bh (c.blocks.getD z.toNat default)).length)) _ ⟨([]:List Int),0,none,0,_,fR,dl,(SR.nil:SR ha (sL none 0 0) ([]:List Int)),⟨rfl,rfl,rfl,rfl,rfl,rfl,rfl,rfl,trivial⟩,rfl,(uS_zero),(by omega)⟩ ?_));rintro kg lf k3 ⟨o,q,al,an,kk,bl,ag,bb,fd,rfl,ho,hq⟩ hA;refine ak _ fd (fun _=>?_);clear fd;replace hT:=(hT.mono cc).mono bl;replace V:=(V.mono cc).mono bl;replace b9:=b9.mono bl;replace E:=(E.mono cc).mono bl;replace Z:=(Z.mono cc).mono bl;have jq:=succ_len (b:=(c.blocks.getD z.toNat default));refine aC 2 rfl (wT 1 [] 38 41 [] [(41,(.bool (decide ((q:Int)<((bh (c.blocks.getD z.toNat default)).length:Int)))))] rfl fun _=>zd 3 5 (fun hK=>?_) fun hK=>?_)
   ·have ly:=gg (l:=bh (c.blocks.getD z.toNat default)) (q:=q) (by omega);have hp:=vF.succ z.toNat fz _ ly;have mO:=Lst.len ho mB.1 (fun r h=>uS_lt vF bk h);have mM:((I2.getD ((bh (c.blocks.getD z.toNat default)).getD q 0).toNat default).length:Int)<=c.regs:=(rsn_len vF bk ((bh (c.blocks.getD z.toNat default)).getD q 0).toNat).1;refine aa ?_;obtain⟨il,f3⟩:=Sv.view (SR.sv b9 ag);have ll:=fI (f3 q);obtain⟨ci,f4⟩:=Sv.view (OS.sv E ag (i:=1) rfl);have hV:=fL (f4 ((bh (c.blocks.getD z.toNat default)).getD q 0).toNat);refine wRo 8 0 [(5,.o (iI ((bh (c.blocks.getD z.toNat default)).getD q 0))),(7,.o (sL (cA (ci ((bh (c.blocks.getD z.toNat default)).getD q 0).toNat) 0) (I2.getD ((bh (c.blocks.getD z.toNat default)).getD q 0).toNat default).length (cK (ci ((bh (c.blocks.getD z.toNat default)).getD q 0).toNat) 0)))] 44 51 [] [(44,(sL al o.length an)),(51,(sL (cA (ci ((bh (c.blocks.getD z.toNat default)).getD q 0).toNat) 0) (I2.getD ((bh (c.blocks.getD z.toNat default)).getD q 0).toNat default).length (cK (ci ((bh (c.blocks.getD z.toNat default)).getD q 0).toNat) 0)))] (vA (Sv.ix (j:=(q:Int)) (SR.sv b9 ag)) (vA (ql 3 0 (vI (f3 q)) rfl rfl) (vA (Sv.ix (j:=((bh (c.blocks.getD z.toNat default)).getD q 0)) (OS.sv E ag (i:=1) rfl)) (vA (ql 25 0 (vL (f4 ((bh (c.blocks.getD z.toNat default)).getD q 0).toNat)) rfl rfl) trivial)))) rfl fun _=>zc (ma.eS ex o (I2.getD ((bh (c.blocks.getD z.toNat default)).getD q 0).toNat default) (HS.call ag) bb hV hT (by omega)) ?_
    rintro _ k4 ⟨ey,g2,l0,kl,hr,dn,rfl,g7,rfl⟩;replace dn:HS _ _ _ [_,_,_] _:=HS.back ag rfl dn;refine za (sL ey (cH o (I2.getD ((bh (c.blocks.getD z.toNat default)).getD q 0).toNat default)).length g2) (aD 2 rfl (wU 1 [] 42 43 [10] [(10,(iI ((q:Int)+1)))] (vi (n:=(q:Int)+1)) rfl fun _=>hA _ _ _ ?_ ⟨cH o (I2.getD ((bh (c.blocks.getD z.toNat default)).getD q 0).toNat default),q+1,ey,g2,_,(fT (bl) hr),dn,g7,⟨rfl,rfl,rfl,rfl,rfl,rfl,rfl,rfl,trivial⟩,rfl,(uS_step bk (show q<(bh (c.blocks.getD z.toNat default)).length by omega) ho),(by omega)⟩));omega
   refine aa ?_;obtain⟨e1,f5⟩:=Sv.view (SR.sv V ag);obtain⟨h4,h5,h6,h7,g9⟩:=BlkT.fx (f5 z.toNat);let hl:Value:=(aG [(sL (cA (e1 z.toNat) 0) (c.blocks.getD z.toNat default).ins.length (cK (e1 z.toNat) 0)),(iI (c.blocks.getD z.toNat default).fin),(iI (c.blocks.getD z.toNat default).reg),(iI (c.blocks.getD z.toNat default).tgt),(iI (c.blocks.getD z.toNat default).els)])
   refine wRo 6 0 [(1,.o (sL a5 c.blocks.length a7)),(4,.o hl)] 53 58 [] [(57,hl),(58,(sL al o.length an))] (vA (ql 22 2 (HS.hc ag (i:=0) rfl) rfl rfl) (vA (Sv.ix (j:=z) (SR.sv V ag)) (vA (qn 48 0 5 (BlkT.vw (f5 z.toNat)) rfl rfl rfl rfl) trivial))) rfl fun _=>zc (mh.rpoints_c ex (c.blocks.getD z.toNat default) o (HS.call ag) g9 (by omega) (by omega) (by omega) (by omega) bb hT (⟨_,rpo_of vF bk fz mz ho⟩)) ?_
   rintro _ k5 ⟨ik,jw,b5,hS,kn,c4,av,rfl,d2,it⟩;replace av:HS _ _ _ [_,_,_,hS] _:=HS.back ag rfl av;replace E:=E.mono c4;replace Z:=Z.mono c4;replace bb:=bb.mono c4;obtain⟨a8,f6⟩:=Sv.view (OS.sv d2 av (i:=3) rfl);have hW:=fL (f6 0);refine wRo 3 7 [(8,.o (sL (cA (a8 0) 0) (b5.getD 0 default).length (cK (a8 0) 0)))] 60 61 [11] [(11,(sL (cA (a8 0) 0) (b5.getD 0 default).length (cK (a8 0) 0)))] (vA (Sv.ix (j:=0) (OS.sv d2 av (i:=3) rfl) (by decide) (by(have hq:=RpF.len (by assumption);omega))) (vA (ql 25 0 (vL (f6 0) (by(have hq:=RpF.len (by assumption);omega))) rfl rfl) trivial)) rfl fun _=>ze 2 ?_
   obtain⟨e2,f7⟩:=Sv.view (OS.sv Z av (i:=2) rfl);have l1:=fL (f7 z.toNat);obtain⟨e3,f8⟩:=Sv.view (OS.sv E av (i:=1) rfl);have l2:=fL (f8 z.toNat);refine wR 1 [(7,.o (sL (cA (e2 z.toNat) 0) (O2.getD z.toNat default).length (cK (e2 z.toNat) 0))),(17,.o (sL (cA (e3 z.toNat) 0) (I2.getD z.toNat default).length (cK (e3 z.toNat) 0)))] 62 82 [6] [(6,(.bool ((m2||((o.length:Int) !=((O2.getD z.toNat default).length:Int)))||(((b5.getD 0 default).length:Int) !=((I2.getD z.toNat default).length:Int)))))] (vA (fun(g1:m2=false)=>(Sv.ix (j:=z) (OS.sv Z av (i:=2) rfl) (by(try simp only[BS]at g1);(first|(dsimp only;omega)|omega|(have hq:=RpF.len (by assumption);dsimp only at hq⊢;omega)|(have hq:=RpF.len (by assumption);omega))) (by(try simp only[BS]at g1);(first|(dsimp only;omega)|omega|(have hq:=RpF.len (by assumption);dsimp only at hq⊢;omega)|(have hq:=RpF.len (by assumption);omega))))) (vA (fun(g1:m2=false)=>(ql 25 0 (vL (f7 z.toNat) (by(try simp only[BS]at g1);(first|(dsimp only;omega)|omega|(have hq:=RpF.len (by assumption);dsimp only at hq⊢;omega)|(have hq:=RpF.len (by assumption);omega)))) rfl rfl)) (vA (fun(g1:(m2||((o.length:Int) !=((O2.getD z.toNat default).length:Int)))=false)=>(Sv.ix (j:=z) (OS.sv E av (i:=1) rfl) (by(try simp only[BS]at g1);(first|(dsimp only;omega)|omega|(have hq:=RpF.len (by assumption);dsimp only at hq⊢;omega)|(have hq:=RpF.len (by assumption);omega))) (by(try simp only[BS]at g1);(first|(dsimp only;omega)|omega|(have hq:=RpF.len (by assumption);dsimp only at hq⊢;omega)|(have hq:=RpF.len (by assumption);omega))))) (vA (fun(g1:(m2||((o.length:Int) !=((O2.getD z.toNat default).length:Int)))=false)=>(ql 25 0 (vL (f8 z.toNat) (by(try simp only[BS]at g1);(first|(dsimp only;omega)|omega|(have hq:=RpF.len (by assumption);dsimp only at hq⊢;omega)|(have hq:=RpF.len (by assumption);omega)))) rfl rfl)) trivial)))) rfl fun _=>aa (wUo 7 0 [] 83 89 [] [(85,(sL A O2.length N)),(86,(iI z)),(87,(sL (cA (a8 0) 0) (b5.getD 0 default).length (cK (a8 0) 0))),(88,(sL al o.length an)),(89,(.pointer (some ⟨sB (sL T I2.length U),sO (sL T I2.length U)+z.toNat*Rp.sz (List Int),none⟩)))] (Sv.ix (j:=z) (OS.sv E av (i:=1) rfl)) rfl fun _=>aN (cM (α:=(List Int)) (j:=z.toNat) (off:=0) (q:=1) (b5.getD 0 default) E av rfl rfl rfl rfl rfl rfl rfl rfl (aH (x:=default) (by omega)) rfl (by rintro cs ⟨_,_,rfl,_⟩;exact⟨a06 rfl,⟨(cA (a8 0) 0),(cK (a8 0) 0),rfl,hW⟩⟩)) rfl ?_)
   rintro _ k6 hg ⟨c8,(f1:HS _ _ _ [_,hg,_,_] _),_⟩;have h8:=OS.len' c8;refine wUo 1 8 [] 90 90 [] [(90,(.pointer (some ⟨sB (sL A O2.length N),sO (sL A O2.length N)+z.toNat*Rp.sz (List Int),none⟩)))] (Sv.ix (j:=z) (OS.sv Z f1 (i:=2) rfl)) rfl fun _=>aN (cM (α:=(List Int)) (j:=z.toNat) (off:=0) (q:=2) o Z f1 rfl rfl rfl rfl rfl rfl rfl rfl (aH (x:=default) (by omega)) rfl (by rintro cs ⟨_,_,rfl,_⟩;exact⟨a06 rfl,⟨al,an,rfl,bb⟩⟩)) rfl ?_
   rintro _ k7 hh ⟨c9,(hu:HS _ _ _ [_,_,hh,_] _),_⟩;have h9:=OS.len' c9;refine ze 2 (wU 1 [] 30 31 [7] [(7,(iI (z-1)))] (vi (n:=z-1)) rfl fun _=>?_);have hp:=stp_of (I:=I2) (O:=O2) (show(bh (c.blocks.getD z.toNat default)).length<=q by omega) ho (by assumption);have hn:=mv bk fz hp hR he rfl;refine hz _ _ _ ?_ ⟨z-1,((m2||((o.length:Int) !=((O2.getD z.toNat default).length:Int)))||(((b5.getD 0 default).length:Int) !=((I2.getD z.toNat default).length:Int))),I2.set z.toNat (b5.getD 0 default),O2.set z.toNat o,T,U,hg,A,N,hh,_,(fT (fT (fT (c3) cc) bl) c4),(HS.sub hu (a02 _ _)),(OS.norm c8),(OS.norm c9),(agC rfl (agC (show Value.slice T I2.length U=Value.slice T (I2.set z.toNat (b5.getD 0 default)).length U by rw[OS.len' c8]) (agC (show Value.slice A O2.length N=Value.slice A (O2.set z.toNat o).length N by rw[OS.len' c9]) ⟨rfl,rfl,trivial⟩))),rfl,(rsn_set bk fz hp),(by omega),(hn.1),(hn.2.1),(fun h b h1 h2=>hn.2.2 h (fun hm b h1=>hcl hm b (by omega)) b (by omega) h2)⟩;omega
  refine hw _ _ _ ?_ ⟨m2,I2,O2,T,U,a3,A,N,a4,_,(fT (c0) c3),b4,E,Z,⟨rfl,rfl,rfl,rfl,trivial⟩,rfl,(bk),(fun h b hb=>hcl h b (by omega) hb)⟩;rw[mA];exact mea_lt he (cnt2_le vF bk)
 try simp only[BS]at dv
 refine wT 1 [] 2 3 [91,92] [(2,(sL aw I1.length a1)),(3,(sL a0 O1.length a2))] rfl fun _=>?_
 obtain⟨ko,e4,ds,dd,jb⟩:=OS.frz c5 dk (i:=1) rfl;have ds:HS _ _ _ [_,[],be] _:=ds;replace b0:=b0.mono e4;obtain⟨kr,e5,dt,ht,jc⟩:=OS.frz b0 ds (i:=2) rfl;have dt:HS _ _ _ [_,_,[]] _:=dt;replace dd:=dd.mono e5;refine aj ⟨.inr rfl,_,rfl,aw,a1,I1,a0,a2,O1,_,(fT (fT (fT (d1) c0) e4) e5),(HS.forget dt),rfl,dd,ht,(fun _=>bkf_of ea (cl (by assumption))),(fun h=>absurd (hv.symm.trans h) (by decide))⟩
end Go.Proofs.YtknafdcgpaejlaaDoor.mi
