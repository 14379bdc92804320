/-
Interference: the allocator. No condition but bounds on lengths.
-/
import Derived.Test.YtgdggmlghemecaaDoorZANA
noncomputable section
namespace Go.Proofs.YtgdggmlghemecaaDoor.nb
open Go.R
set_option maxRecDepth 10000
set_option linter.unusedVariables false
set_option linter.unusedSimpArgs false
variable (ex:FuncId) {F:Fz} {H:Heap} {R:List Fp}
open m1 m2 m3 m4 m5 m6 ma ml mb mc md mf mg mh mi mj na
abbrev kN(c:VFnT)(b i:Nat):VInT:=(bh c b).ins.getD i default
def eok(c:VFnT)(b i:Nat)(a x:Int):Prop:=x≠a/\¬((kN c b i).i.op=10/\x=(kN c b i).i.b)
def edg(c:VFnT)(b i a x:Nat):Prop:=(a:Int)∈ab (kN c b i)/\ptS c b (i+1) x/\eok c b i a x
def E0(c:VFnT)(k a x:Nat):Prop:= ∃b i,b<k/\i<(bh c b).ins.length/\edg c b i a x
def E1(c:VFnT)(k n a x:Nat):Prop:=E0 c k a x\/∃i,i<n/\edg c k i a x
def E2(c:VFnT)(k n q a x:Nat):Prop:=E1 c k n a x\/((a:Int)∈(ab (kN c k n)).take q/\ptS c k (n+1) x/\eok c k n a x)
def E3(c:VFnT)(k n q:Nat)(l:List Int)(p a x:Nat):Prop:=E2 c k n q a x\/((a:Int)=(ab (kN c k n)).getD q 0/\(x:Int)∈l.take p/\eok c k n a x)
def ie(c:VFnT)(a x:Nat):Prop:=E0 c c.blocks.length a x
def Sy(R:Nat->Nat->Prop)(r y:Nat):Prop:=R r y\/R y r
theorem Sy.iff{R z:Nat->Nat->Prop}(h: ∀a x,R a x↔z a x)(r y:Nat):Sy R r y↔Sy z r y:=or_congr (h r y) (h y r)
structure RwF(c:VFnT)(rl:List (List U64))(R:Nat->Nat->Prop):Prop where
 len:rl.length=c.regs.toNat
 row: ∀r,r<c.regs.toNat->(rl.getD r default).length=wds c
 bit: ∀r,r<c.regs.toNat->∀y,bI rl r y↔Sy R r y
theorem RwF.iff{c:VFnT}{A:List (List U64)}{R z:Nat->Nat->Prop}(h:RwF c A R)(k: ∀a x,R a x↔z a x):RwF c A z:=⟨h.len,h.row,fun r E y=>(h.bit r E y).trans (Sy.iff k r y)⟩
theorem rw_zero{c:VFnT}{z:List (List U64)}{k:Nat}(A:z.length=c.regs.toNat)(N:c.regs.toNat<=k)(h: ∀j,j<k->z.getD j default=List.replicate (wds c) ⟨0⟩):RwF c z (E0 c 0):=by
 refine⟨A,fun r E=>by rw[h r M,a0H],fun r E y=>?_⟩;unfold bI;rw[h r M,bit_rep];constructor
 ·intro h;cases h
 rintro(⟨b,_,h,_⟩|⟨b,_,h,_⟩)<;>exact absurd h (a0t _)
theorem rw_e0{c:VFnT}{z:List (List U64)}{k n:Nat}(h:RwF c z (E1 c k n))(T:(bh c k).ins.length=n):RwF c z (E0 c (k+1)):=h.iff fun a x=>by
 unfold E1 E0;constructor
 ·rintro(⟨b,i,E,A⟩|⟨i,E,A⟩)
  ·exact⟨b,i,by omega,A⟩
  exact⟨k,i,a1u _,by omega,A⟩
 rintro⟨b,i,E,A,N⟩;rcases a0j b k with hb|hb
 ·exact .inl ⟨b,i,hb,A,N⟩
 have:b=k:=M
 subst this;exact .inr ⟨i,by omega,N⟩
theorem rw_e1{c:VFnT}{z:List (List U64)}{k:Nat}(h:RwF c z (E0 c k)):RwF c z (E1 c k 0):=h.iff fun a x=>⟨.inl,fun h=>h.elim id fun⟨i,h,_⟩=>absurd h (a0t _)⟩
theorem rw_e1s{c:VFnT}{z:List (List U64)}{k n q:Nat}(h:RwF c z (E2 c k n q))(N:(ab (kN c k n)).length<=q):RwF c z (E1 c k (n+1)):=h.iff fun a x=>by
 unfold E2 E1;rw[a0h N];constructor
 ·rintro((h|⟨i,E,A⟩)|h)
  ·exact .inl h
  ·exact .inr ⟨i,by omega,A⟩
  exact .inr ⟨n,a1u _,h⟩
 rintro(h|⟨i,E,A⟩)
 ·exact .inl (.inl h)
 rcases a0j i n with hi|hi
 ·exact .inl (.inr ⟨i,hi,A⟩)
 have:i=n:=M
 subst this;exact .inr A
theorem rw_e2{c:VFnT}{z:List (List U64)}{k n:Nat}(h:RwF c z (E1 c k n)):RwF c z (E2 c k n 0):=h.iff fun a x=>⟨.inl,fun h=>h.elim id fun h=>by simp at h⟩
theorem rw_e2s{c:VFnT}{z:List (List U64)}{k n q p:Nat}{l:List Int}(T:Lst l (ptS c k (n+1)))(h:RwF c z (E3 c k n q l p))(Z:q<(ab (kN c k n)).length)(U:l.length<=p):RwF c z (E2 c k n (q+1)):=h.iff fun a x=>by
 unfold E3 E2;rw[a0h U,bK Z (d:=0),a08,a0f,T.mem];have e:((x:Int)).toNat=x:=M
 rw[e];constructor
 ·rintro((h|⟨A,E,N⟩)|⟨A,⟨_,E⟩,N⟩)
  ·exact .inl h
  ·exact .inr ⟨.inl A,E,N⟩
  exact .inr ⟨.inr A,E,N⟩
 rintro(h|⟨A|A,E,N⟩)
 ·exact .inl (.inl h)
 ·exact .inl (.inr ⟨A,E,N⟩)
 exact .inr ⟨A,⟨by omega,E⟩,N⟩
theorem rw_e3{c:VFnT}{z:List (List U64)}{k n q:Nat}{l:List Int}(h:RwF c z (E2 c k n q)):RwF c z (E3 c k n q l 0):=h.iff fun a x=>⟨.inl,fun h=>h.elim id fun h=>by simp at h⟩
theorem iS{c:VFnT}{k n q p:Nat}{l:List Int}(z:p<l.length)(a x:Nat):E3 c k n q l (p+1) a x↔(E3 c k n q l p a x\/((a:Int)=(ab (kN c k n)).getD q 0/\(x:Int)=l.getD p 0/\eok c k n a x)):=by
 unfold E3;rw[bK z (d:=0),a08,a0f];constructor
 ·rintro(h|⟨E,A|A,N⟩)
  ·exact .inl (.inl h)
  ·exact .inl (.inr ⟨E,A,N⟩)
  exact .inr ⟨E,A,N⟩
 rintro((h|⟨E,A,N⟩)|⟨E,A,N⟩)
 ·exact .inl h
 ·exact .inr ⟨E,.inl A,N⟩
 exact .inr ⟨E,.inr A,N⟩
theorem rw_no{c:VFnT}{z:List (List U64)}{k n q p:Nat}{l:List Int}(U:p<l.length)(h:RwF c z (E3 c k n q l p))(T: ¬eok c k n ((ab (kN c k n)).getD q 0) (l.getD p 0)):RwF c z (E3 c k n q l (p+1)):=h.iff fun a x=>by rw[iS U];exact⟨.inl,fun h=>h.elim id fun⟨E,N,A⟩=>absurd (by rw[E,N]at A;exact A) T⟩
structure Con(rl rl':List (List U64))(a x:Int):Prop where
 len:rl'.length=rl.length
 row: ∀r,(rl'.getD r default).length=(rl.getD r default).length
 bit: ∀r y,bI rl' r y↔(bI rl r y\/(r=a.toNat/\y=x.toNat)\/(r=x.toNat/\y=a.toNat))
theorem eok_of{c:VFnT}{k n:Nat}{a x:Int}(h:eok c k n a x)(z:0<=a)(A:0<=x):eok c k n ((a.toNat:Nat):Int) ((x.toNat:Nat):Int):=by rwa [a18 z,a18 A]
theorem rw_yes{c:VFnT}{rl z:List (List U64)}{k n q p:Nat}{l:List Int}(Z:p<l.length)(h:RwF c rl (E3 c k n q l p))(hc:Con rl z ((ab (kN c k n)).getD q 0) (l.getD p 0))(T:0<=(ab (kN c k n)).getD q 0)(hx:0<=l.getD p 0)(U:eok c k n ((ab (kN c k n)).getD q 0) (l.getD p 0)):RwF c z (E3 c k n q l (p+1)):=by
 refine⟨hc.len.trans h.len,fun r N=>(hc.row r).trans (h.row r N),fun r N y=>?_⟩;rw[hc.bit,h.bit r N];unfold Sy;rw[iS Z,iS Z];constructor
 ·rintro((A|A)|⟨A,E⟩|⟨A,E⟩)
  ·exact .inl (.inl A)
  ·exact .inr (.inl A)
  ·subst A E;exact .inl (.inr ⟨by omega,by omega,eok_of U T hx⟩)
  subst A E;exact .inr (.inr ⟨by omega,by omega,eok_of U T hx⟩)
 rintro((A|⟨A,E,_⟩)|(A|⟨A,E,_⟩))
 ·exact .inl (.inl A)
 ·exact .inr (.inl ⟨by omega,by omega⟩)
 ·exact .inl (.inr A)
 exact .inr (.inr ⟨by omega,by omega⟩)
theorem con_two{z:List (List U64)}{a b:Int}{A E:List U64}(ha:a.toNat<z.length)(hb:b.toNat<z.length)(ad:a.toNat≠b.toNat)(l1:A.length=(z.getD a.toNat default).length)(l2:E.length=((z.set a.toNat A).getD b.toNat default).length)
  (h1: ∀i,aD A i=(aD (z.getD a.toNat default) i||decide (i=b.toNat))) (Z: ∀i,aD E i=(aD ((z.set a.toNat A).getD b.toNat default) i||decide (i=a.toNat))):Con z ((z.set a.toNat A).set b.toNat E) a b:=by
 have a_: ∀r,(z.set a.toNat A).getD r default=if a.toNat=r then A else z.getD r default:=fun r=>by
  rw[dI];by_cases h:a.toNat=r
  ·subst h;rw[if_pos ⟨V,ha⟩,if_pos rfl]
  rw[if_neg (fun e=>h e.1),if_neg h]
 rw[a_,if_neg ad]at l2 Z
 have e: ∀r,((z.set a.toNat A).set b.toNat E).getD r default=if b.toNat=r then E else if a.toNat=r then A else z.getD r default:=fun r=>by
  rw[dI,a_];by_cases h:b.toNat=r
  ·subst h;rw[if_pos ⟨V,by rw[a0c];exact hb⟩,if_pos rfl]
  rw[if_neg (fun e=>h e.1),if_neg h]
 refine⟨by rw[a0c,a0c],fun r=>?_,fun r y=>?_⟩
 ·rw[e];split
  ·rename_i h;subst h;exact l2
  split
  ·rename_i h;subst h;exact l1
  rfl
 unfold bI
 rw[e]
 by_cases h:b.toNat=r
 ·subst h;rw[if_pos V,Z,a0z,decide_eq_true_eq];constructor
  ·rintro(h|h)
   ·exact .inl h
   exact .inr (.inr ⟨V,h⟩)
  rintro(h|⟨h,_⟩|⟨_,h⟩)
  ·exact .inl h
  ·exact absurd h.symm ad
  exact .inr h
 rw[if_neg h]
 by_cases N:a.toNat=r
 ·subst N;rw[if_pos V,h1,a0z,decide_eq_true_eq];constructor
  ·rintro(h|h)
   ·exact .inl h
   exact .inr (.inl ⟨V,h⟩)
  rintro(h|⟨_,h⟩|⟨h,_⟩)
  ·exact .inl h
  ·exact .inr h
  exact absurd h ad
 rw[if_neg N]
 exact⟨.inl,fun T=>T.elim id fun T=>by rcases T with⟨U,_⟩|⟨U,_⟩;exact absurd U.symm N;exact absurd U.symm h⟩
def upS(z:List (List U64))(k n y:Nat):Prop:=bI z k y/\y<n
theorem up_zero{z:List (List U64)}{k:Nat}:Lst [] (upS z k 0):=Lst.nil fun r h=>a0t _ h.2
theorem Lst.snoc{l:List Int}{S:Nat->Prop}{n:Nat}(h:Lst l S)(N: ∀y,S y->y<n):Lst (l++[(n:Int)]) (fun y=>S y\/y=n):=by
 refine⟨a2e.2 ⟨h.asc,List.pairwise_singleton _ _,fun x T y z=>?_⟩,fun x=>?_⟩
 ·rw[a0f]at z;subst z;have:=(h.mem x).1 T;have:=N _ this.2;omega
 rw[a08,a0f,h.mem];constructor
 ·rintro(A|A)
  ·exact⟨A.1,.inl A.2⟩
  exact⟨by omega,.inr M⟩
 rintro⟨A,E|E⟩
 ·exact .inl ⟨A,E⟩
 exact .inr M
theorem up_yes{z:List (List U64)}{k n:Nat}{l:List Int}(h:Lst l (upS z k n))(T:bI z k n):Lst (l++[(n:Int)]) (upS z k (n+1)):=Lst.ext (Lst.snoc h fun y U=>U.2) fun y=>by
 unfold upS;constructor
 ·rintro(⟨A,N⟩|rfl)
  ·exact⟨A,by omega⟩
  exact⟨T,a1u _⟩
 rintro⟨A,N⟩;rcases a0j y n with E|E
 ·exact .inl ⟨A,E⟩
 exact .inr M
theorem up_no{z:List (List U64)}{k n:Nat}{l:List Int}(h:Lst l (upS z k n))(T: ¬bI z k n):Lst l (upS z k (n+1)):=Lst.ext h fun y=>by
 unfold upS;constructor
 ·rintro⟨A,N⟩;exact⟨A,by omega⟩
 rintro⟨A,N⟩;refine⟨A,?_⟩;rcases a0j y n with E|E
 ·exact E
 have:y=n:=M
 subst this;exact absurd A T
theorem rw_last{c:VFnT}{z:List (List U64)}{k:Nat}(h:RwF c z (E0 c k))(A:k=c.blocks.length):RwF c z (ie c):=by subst A;exact h
theorem row_rep{n r:Nat}:dw (List.replicate n ([]:List Int)) r=[]:=by unfold dw;rw[a03,a1k];split<;>rfl
structure InF(c:VFnT)(g:List (List Int)):Prop where
 len:g.length=c.regs.toNat
 row: ∀r,r<c.regs.toNat->Lst (dw g r) (Sy (ie c) r)
theorem inf_of{c:VFnT}{g:List (List Int)}{k:Nat}(z:g.length=c.regs.toNat)(A:c.regs.toNat<=k)(h: ∀r,r<k->Lst (dw g r) (Sy (ie c) r)):InF c g:=⟨z,fun r E=>h r M⟩
theorem fin_row{c:VFnT}{Z:List (List U64)}{g:List (List Int)}{k n:Nat}(h:RwF c Z (ie c))(hk:k<c.regs.toNat)(v:VF c)(hn:c.regs.toNat<=n)(hg: ∀r,r<k->Lst (dw g r) (Sy (ie c) r))(hu:Lst (dw g k) (upS Z k n)): ∀r,r<k+1->Lst (dw g r) (Sy (ie c) r):=fun r hr=>by
 rcases a0j r k with A|A
 ·exact hg r A
 have:r=k:=M
 subst this;refine Lst.ext hu fun y=>?_
 unfold upS;rw[h.bit r hk];refine⟨fun h=>h.1,fun z=>⟨z,?_⟩⟩;have U: ∀a x,ie c a x->(a:Int)<c.regs/\(x:Int)<c.regs:=fun a x ⟨b,i,A,E,N,T,_⟩=>⟨((bx (v.ins b A i E)).2.1 _ N).2,eB v A T⟩
 rcases z with z|z
 ·have:=U _ _ z;omega
 have:=U _ _ z;omega
set_option maxHeartbeats 4000000 in
theorem inter_c{c8:Option Addr}{dd:Nat}(c:VFnT)(hs:HS (.of H []) F H [] R)(qu:in64 c.params)(qv:in64 c.regs)(c4:SR F (sL c8 c.blocks.length dd) c.blocks)(hT:TB 37 tabC F)(n0: ∀j,(c.blocks.getD j default).ins.length<=1073741822):kKt ex 28 [(aG [(iI c.params),(iI c.regs),(sL c8 c.blocks.length dd)])] H fun v H'=> ∃(ag:Option Addr) (kg:Nat) (g:List (List Int)) (F':Fz),Fz.le F F'/\HS (.of H []) F' H' [] R/\v=sL ag g.length kg/\SR F' (sL ag g.length kg) g/\(bT c=true->InF c g)/\(bT c=false->g=[]):=by
 refine aC Tryd.func28 V V (aj 1 V (aa (aV (aO hs V V) V V ?_)));rintro _ H2 _ ⟨b1,rfl,mk,_⟩;let n7:Value:=(aG [(iI c.params),(iI c.regs),(sL c8 c.blocks.length dd)])
 refine za (sL none 0 0) (ae 3 V (aa (bn 1 0 18 18 [] [(18,n7)] (Hr_ 0 0 Hn_) mk V V fun _=>zc (m3.iE ex c (HS.call mk) M M c4 hT (fun j=>a0e (n0 j) M)) ?_)));rintro _ H4 ⟨r4,F4,il,hV,rfl,rfl⟩;replace hV:=HS.back mk V hV;replace hT:=hT.mono il;replace c4:=c4.mono il;refine cj 1 2 20 20 [] [(20,(.bool (!(bT c))))] Hn_ (by kernel_rfl) V fun _=>ae 1 V (zi 1 2 (fun c6=>?_) fun c6=>?_)
 ·try simp only[BS]at c6
  have hv:=c6;refine wT 1 [] 2 2 [] [(2,(sL none 0 0))] V fun _=>am ⟨.inr V,_,V,none,0,([]:List (List Int)),_,(il),(HS.forget hV),V,(SR.nil:SR F4 (sL none 0 0) ([]:List (List Int))),(fun h=>absurd (h.symm.trans hv) e_),(fun _=>rfl)⟩
 try simp only[BS]at c6
 have hv:=c6;have vF:=eU hv;have tw:=vF.nb;have rJ:=vF.regs;have tD:=wd_le vF.regs;have qy:Int.tdiv (c.regs+63) 64=(c.regs+63)/64:=a1d M;have qz:(List.replicate c.regs.toNat (default:Hd)).length=c.regs.toNat:=a0H;refine aa (bn 2 0 21 22 [] [(22,(iI c.regs))] (Hr_ 1 0 Hn_) hV V V fun _=>aV (cG (default:Hd) hV V V V V V V V V V V M M) V V ?_);rintro _ qW p9 ⟨a9,k9,rfl,ph,oB,_⟩;have oC:=HS.snoc oB;have k4:SF F4 (List.replicate c.regs.toNat (default:Hd)) (List.replicate c.regs.toNat ([]:List U64)) []:=SF.rep _;have qg:=FAM.len k4;let f7:Fp:=(fP b1 [(iI c.params),(iI c.regs),(sL c8 c.blocks.length dd)])
 refine zn oC V fun z qX oD=>sgo 1 4 1 0 [] [] (Hr_ 4 3 Hn_) oD V V fun qr qY l9=>ae 3 V (bF 2 24 26 [] [(25,(iI ((List.replicate c.regs.toNat (default:Hd)).length:Int))),(26,(iI 0))] (Hr_ 0 3 Hn_) l9 V V fun _=>ah (fun(mm:Nat) f H'=> ∃(rh:List Hd) (rl:List (List U64)) (k:Nat) (b3:Fp) (aw:Option Addr) (ay:Nat) (f1:Fp) (F':Fz),Fz.le F4 F'/\HS (Base.of H []) F' H' [f7,b3,f1,(fP z [(sL aw rh.length ay)])] R/\OS F' (sL aw rh.length ay) rh b3/\SF F' rh rl f1/\aA f [(1,(pT b1 0)),(3,(pT z 0)),(25,(iI ((List.replicate c.regs.toNat (default:Hd)).length:Int))),(26,(iI (k:Int)))]/\mm=c.regs.toNat-k/\(rl.length=c.regs.toNat)/\(k<=c.regs.toNat)/\(∀j,j<k->rl.getD j default=List.replicate (wds c) ⟨0⟩)) _ ⟨List.replicate c.regs.toNat (default:Hd),List.replicate c.regs.toNat ([]:List U64),0,p9,a9,k9,[],_,fR,l9,ph,k4,⟨V,V,V,V,trivial⟩,V,u_,M,(by intro j hj;omega)⟩ ?_)
 rintro qJ rg qZ ⟨rh,rl,k,b3,aw,ay,f1,o2,hB,f3,bk,ds,k5,rfl,nW,rv,n1⟩ oN;refine ap _ k5 (fun _=>?_);clear k5;replace hT:=hT.mono hB;replace c4:=c4.mono hB;have oW:=FAM.len ds;refine aj 1 V (wT 2 [] 27 27 [] [(27,(.bool (decide ((k:Int)<((List.replicate c.regs.toNat (default:Hd)).length:Int)))))] V fun _=>zd 4 5 (fun o8=>?_) fun o8=>?_)
 ·refine wT 1 [] 28 28 [4] [(4,(iI (k:Int)))] V fun _=>aF V ?_
  have qR:in64 (c.regs+63)->in64 (Int.tdiv (c.regs+63) 64):=fun h=>vq h e_
  refine d8 6 29 34 [] [(29,(sL aw rh.length ay)),(30,(iI (k:Int))),(34,(iI (Int.tdiv (c.regs+63) 64)))] (Hr_ 0 3 (Hr_ 3 0 (Ha_ (vi (n:=c.regs+63)) (Ha_ (vA (show(64:Int)≠0 from by decide) (vq (a:=c.regs+63) (b:=64) M e_)) Hn_)))) f3 V V fun _=>e9 (id:= .x []) (cG (⟨0⟩:U64) f3.log0 V V V V V V V V V ⟨V,by decide⟩ M M) V V (by rintro _ _ pj ⟨h8,kl,rfl,l0,_,hwr⟩;exact dK V V (Wr.did hwr)) (⟨.inl V,⟨.inl V,⟨.inl V,⟨.inl V,⟨.inr trivial,⟨.inr a0d,trivial⟩⟩⟩⟩⟩⟩) ?_
  rintro _ o6 pj ⟨h8,kl,rfl,l0,g5,_⟩ oR nD;replace g5:=HS.lg g5 f3 nD;generalize ({o6 with log:=oR}:Heap)=p2 at g5⊢;refine zx Hd k (OS.sv bk g5.log0 (i:=1) V) ?_;obtain⟨qk,od,oE,h4,ou⟩:=SF.open ds g5 (q:=2) (i:=k) V M;have h4:OS o2 (sL (rh.getD k default).a (rh.getD k default).n (rh.getD k default).k) (rl.getD k default) od:=h4;have qG:=OS.nlen h4;obtain⟨oq,mx,k6⟩:=SF.shutN (⟨h8,(List.replicate (Int.tdiv (c.regs+63) 64).toNat (⟨0⟩:U64)).length,kl⟩:Hd) ou fR oE (q:=2) (m:=4) e_ V V l0;have qh:=FAM.len k6;refine gz (id:= .x (b3.map Prod.fst)) (cy (α:=Hd) (j:=k) (off:=0) (q:=1) (⟨h8,(List.replicate (Int.tdiv (c.regs+63) 64).toNat (⟨0⟩:U64)).length,kl⟩:Hd) bk mx.log0 V V V V V V V V (aT (x:=default) M) V (by rintro cs rfl;exact⟨a06 V,V⟩)) V (by rintro _ _ n2 ⟨h5,_,hwr⟩;exact dK V V (Wr.did hwr)) (kb V) ?_;rintro _ o7 n2 ⟨h5,hG,_⟩ oT nE;replace hG:=HS.lg hG mx nE;generalize ({o7 with log:=oT}:Heap)=p3 at hG⊢;have pJ:=OS.len' h5;refine bB 2 V (wU 1 [] 26 26 [37] [(26,(iI ((k:Int)+1)))] (vi (n:=(k:Int)+1)) V fun _=>?_);refine oN _ _ _ ?_ ⟨rh.set k (⟨h8,(List.replicate (Int.tdiv (c.regs+63) 64).toNat (⟨0⟩:U64)).length,kl⟩:Hd),rl.set k (List.replicate (Int.tdiv (c.regs+63) 64).toNat (⟨0⟩:U64)),k+1,n2,aw,ay,oq,_,(hB),(by simpa only[a0c] using(HS.sub hG (a02 _ _))),(OS.norm h5),k6,⟨V,V,V,V,trivial⟩,V,(by rw[a0c];exact nW),M,(zset n1 M)⟩;omega
 refine wT 2 [] 38 38 [5] [(5,(.func (.func 57) #[] #[(pT z 0)]))] V fun _=>?_
 have oz:=rw_zero (c:=c) nW M n1;refine aa (bn 1 0 39 39 [] [(39,n7)] (Hr_ 0 0 Hn_) f3 V V fun _=>zc (na.jC ex c (HS.call f3) M M c4 hT M M) ?_);rintro _ q0 ⟨fd,fi,A,g9,o3,g1,hH,rfl,a6,ru⟩;replace hH:=HS.back f3 V hH;replace bk:=bk.mono g1;replace ds:=SF.mono g1 ds;refine za (sL fd A.length fi) (ae 3 V ?_);have ps:=(by assumption:PsF c _)
 have sy:=ps.len;refine bF 2 41 44 [] [(42,(sL c8 c.blocks.length dd)),(43,(iI (c.blocks.length:Int))),(44,(iI 0))] (Hr_ 1 0 Hn_) hH V V fun _=>ah (fun(mm:Nat) f H'=> ∃(d4:List Hd) (hY:List (List U64)) (k:Nat) (b4:Fp) (a7:Option Addr) (bl:Nat) (dv:Fp) (F':Fz),Fz.le o3 F'/\HS (Base.of H []) F' H' [f7,b4,dv,(fP z [(sL a7 d4.length bl)]),g9] R/\OS F' (sL a7 d4.length bl) d4 b4/\SF F' d4 hY dv/\aA f [(1,(pT b1 0)),(3,(pT z 0)),(5,(.func (.func 57) #[] #[(pT z 0)])),(6,(sL fd A.length fi)),(42,(sL c8 c.blocks.length dd)),(43,(iI (c.blocks.length:Int))),(44,(iI (k:Int)))]/\mm=c.blocks.length-k/\(RwF c hY (E0 c k))/\(k<=c.blocks.length)) _ ⟨rh,rl,0,b3,aw,ay,f1,_,fR,hH,bk,ds,⟨V,V,V,V,V,V,V,trivial⟩,V,(oz),M⟩ ?_
 rintro qK ri q1 ⟨d4,hY,k,b4,a7,bl,dv,kt,g2,g6,f5,g7,k7,rfl,nk,hk⟩ oO;refine ap _ k7 (fun _=>?_);clear k7;replace hT:=(hT.mono g1).mono g2;replace c4:=(c4.mono g1).mono g2;replace a6:=a6.mono g2;have oX:=FAM.len g7;have qA:=nk.len;refine aj 1 V (wT 2 [] 45 45 [] [(45,(.bool (decide ((k:Int)<(c.blocks.length:Int)))))] V fun _=>zd 4 5 (fun o9=>?_) fun o9=>?_)
 ·have lx:k<c.blocks.length:=M
  have tt:=n0 k;have px:PtX c k (A.getD k default):=ps.at_ k lx;have sC:(A.getD k default).length=(c.blocks.getD k default).ins.length+2:=px.len;have pN:(A.getD k []).length=(c.blocks.getD k default).ins.length+2:=px.len;refine aa ?_;obtain⟨a2,mW⟩:=Sv.view (SR.sv c4 g6);obtain⟨pz,pA,pB,pC,g0⟩:=BlkT.fx (mW k);refine cj 3 0 46 48 [] [(46,(iI (k:Int))),(48,(aG [(sL (cA (a2 k) 0) (c.blocks.getD k default).ins.length (cK (a2 k) 0)),(iI (c.blocks.getD k default).fin),(iI (c.blocks.getD k default).reg),(iI (c.blocks.getD k default).tgt),(iI (c.blocks.getD k default).els)]))] (Ha_ (Sv.ix (j:=(k:Int)) (SR.sv c4 g6)) (Hl_ 2 (qn 43 0 5 (BlkT.vw (mW k)) V V V V) Hn_)) (by kernel_rfl) V fun _=>zn g6 V fun nV q2 oF=>sgo 2 4 1 0 [7] [(7,(iI (k:Int)))] (Hr_ 5 5 Hn_) oF V V fun qs q3 mI=>ae 2 V (bF 2 49 52 [] [(50,(sL (cA (a2 k) 0) (c.blocks.getD k default).ins.length (cK (a2 k) 0))),(51,(iI ((c.blocks.getD k default).ins.length:Int))),(52,(iI 0))] (Hr_ 1 5 Hn_) mI V V fun _=>ah (fun(mm:Nat) f H'=> ∃(ha:List Hd) (h0:List (List U64)) (n:Nat) (b5:Fp) (a8:Option Addr) (bz:Nat) (d1:Fp) (F':Fz),Fz.le kt F'/\HS (Base.of H []) F' H' [f7,b5,d1,(fP z [(sL a8 ha.length bz)]),g9,(fP nV [(sL (cA (a2 k) 0) (c.blocks.getD k default).ins.length (cK (a2 k) 0)),(iI (c.blocks.getD k default).fin),(iI (c.blocks.getD k default).reg),(iI (c.blocks.getD k default).tgt),(iI (c.blocks.getD k default).els)])] R/\OS F' (sL a8 ha.length bz) ha b5/\SF F' ha h0 d1/\aA f [(1,(pT b1 0)),(3,(pT z 0)),(5,(.func (.func 57) #[] #[(pT z 0)])),(6,(sL fd A.length fi)),(7,(iI (k:Int))),(42,(sL c8 c.blocks.length dd)),(43,(iI (c.blocks.length:Int))),(44,(iI (k:Int))),(50,(sL (cA (a2 k) 0) (c.blocks.getD k default).ins.length (cK (a2 k) 0))),(51,(iI ((c.blocks.getD k default).ins.length:Int))),(52,(iI (n:Int)))]/\mm=(c.blocks.getD k default).ins.length-n/\(RwF c h0 (E1 c k n))/\(n<=(c.blocks.getD k default).ins.length)) _ ⟨d4,hY,0,b4,a7,bl,dv,_,fR,mI,f5,g7,⟨V,V,V,V,V,V,V,V,V,V,V,trivial⟩,V,(rw_e1 nk),M⟩ ?_)
  rintro qL rj q4 ⟨ha,h0,n,b5,a8,bz,d1,qU,g3,hI,co,dt,k8,rfl,n3,hn⟩ oP;refine ap _ k8 (fun _=>?_);clear k8;replace hT:=hT.mono g3;replace a6:=a6.mono g3;replace g0:=g0.mono g3;have oY:=FAM.len dt;refine aj 1 V (wT 2 [] 53 53 [] [(53,(.bool (decide ((n:Int)<((c.blocks.getD k default).ins.length:Int)))))] V fun _=>zd 4 5 (fun pb=>?_) fun pb=>?_)
  ·have rI:n<(c.blocks.getD k default).ins.length:=M
   have rK:(∀x∈aI ((c.blocks.getD k default).ins.getD n default),0<=x/\x<c.regs)/\(∀x∈ab ((c.blocks.getD k default).ins.getD n default),0<=x/\x<c.regs)/\((c.blocks.getD k default).ins.getD n default).args.length<=6:=bx (vF.ins k lx n rI);have qD:=rK.2.2;have pl:Lst ((A.getD k default).getD (n+1) default) (ptS c k (n+1)):=px.pt (n+1) rI;have tz:=Lst.len pl rJ.1 (fun r h=>eB vF lx h);have tA:((A.getD k default).getD (n+1) []).length=((A.getD k default).getD (n+1) default).length:=rfl;have qx:((A.getD k []).getD (n+1) []).length=((A.getD k default).getD (n+1) default).length:=rfl;have tE:=dN (v:=((c.blocks.getD k default).ins.getD n default));refine aa ?_;obtain⟨hw,mX⟩:=Sv.view (SR.sv g0 hI);obtain⟨pD,pE,pF,pG,pH,nU⟩:=VInT.fx (mX n);let n8:Value:=(aG [(iI ((c.blocks.getD k default).ins.getD n default).i.op),(iI ((c.blocks.getD k default).ins.getD n default).i.a),(iI ((c.blocks.getD k default).ins.getD n default).i.b),(iI ((c.blocks.getD k default).ins.getD n default).i.c),(iI ((c.blocks.getD k default).ins.getD n default).i.n),(sL (cA (hw n) 5) ((c.blocks.getD k default).ins.getD n default).args.length (cK (hw n) 5))])
   refine cj 3 0 54 56 [] [(54,(iI (n:Int))),(56,n8)] (Ha_ (Sv.ix (j:=(n:Int)) (SR.sv g0 hI)) (Hl_ 2 (qn 47 0 6 (VInT.vw (mX n)) V V V V) Hn_)) (by kernel_rfl) V fun _=>zn hI V fun k0 q5 oG=>sgo 2 4 1 0 [9] [(9,(iI (n:Int)))] (Hr_ 5 6 Hn_) oG V V fun qt q6 h6=>ae 2 V (aa (bn 1 0 57 57 [] [(57,n8)] (Hr_ 0 6 Hn_) h6 V V fun _=>?_))
   refine zc (ma.jL ex ((c.blocks.getD k default).ins.getD n default) (HS.call h6) M M M M M nU hT) ?_;rintro _ q7 ⟨kz,nh,rA,nj,o4,hC,h7,rfl,go,rfl⟩;replace h7:=HS.back h6 V h7;replace co:=co.mono hC;replace dt:=SF.mono hC dt;let nm:Fp:=(fP nV [(sL (cA (a2 k) 0) (c.blocks.getD k default).ins.length (cK (a2 k) 0)),(iI (c.blocks.getD k default).fin),(iI (c.blocks.getD k default).reg),(iI (c.blocks.getD k default).tgt),(iI (c.blocks.getD k default).els)])
   let nn:Fp:=(fP k0 [(iI ((c.blocks.getD k default).ins.getD n default).i.op),(iI ((c.blocks.getD k default).ins.getD n default).i.a),(iI ((c.blocks.getD k default).ins.getD n default).i.b),(iI ((c.blocks.getD k default).ins.getD n default).i.c),(iI ((c.blocks.getD k default).ins.getD n default).i.n),(sL (cA (hw n) 5) ((c.blocks.getD k default).ins.getD n default).args.length (cK (hw n) 5))])
   refine cj 2 2 59 60 [] [(59,(iI ((ab ((c.blocks.getD k default).ins.getD n default)).length:Int))),(60,(iI 0))] Hn_ (by kernel_rfl) V fun _=>ae 2 V (ah (fun(mm:Nat) f H'=> ∃(hb:List Hd) (h1:List (List U64)) (q:Nat) (b6:Fp) (bb:Option Addr) (b2:Nat) (d2:Fp) (F':Fz),Fz.le o4 F'/\HS (Base.of H []) F' H' [f7,b6,d2,(fP z [(sL bb hb.length b2)]),g9,nm,nn,nj] R/\OS F' (sL bb hb.length b2) hb b6/\SF F' hb h1 d2/\aA f [(1,(pT b1 0)),(3,(pT z 0)),(5,(.func (.func 57) #[] #[(pT z 0)])),(6,(sL fd A.length fi)),(7,(iI (k:Int))),(9,(iI (n:Int))),(10,(pT k0 0)),(42,(sL c8 c.blocks.length dd)),(43,(iI (c.blocks.length:Int))),(44,(iI (k:Int))),(50,(sL (cA (a2 k) 0) (c.blocks.getD k default).ins.length (cK (a2 k) 0))),(51,(iI ((c.blocks.getD k default).ins.length:Int))),(52,(iI (n:Int))),(58,(sL kz (ab ((c.blocks.getD k default).ins.getD n default)).length nh)),(59,(iI ((ab ((c.blocks.getD k default).ins.getD n default)).length:Int))),(60,(iI (q:Int)))]/\mm=(ab ((c.blocks.getD k default).ins.getD n default)).length-q/\(RwF c h1 (E2 c k n q))/\(q<=(ab ((c.blocks.getD k default).ins.getD n default)).length)) _ ⟨ha,h0,0,b5,a8,bz,d1,_,fR,h7,co,dt,⟨V,V,V,V,V,V,V,V,V,V,V,V,V,V,V,V,trivial⟩,V,(rw_e2 n3),M⟩ ?_)
   rintro qM rk q8 ⟨hb,h1,q,b6,bb,b2,d2,o5,hD,dn,f6,g8,la,rfl,n4,hq⟩ oQ;refine ap _ la (fun _=>?_);clear la;replace a6:=(a6.mono hC).mono hD;replace go:=go.mono hD;have oZ:=FAM.len g8;refine aj 1 V (wT 2 [] 61 61 [] [(61,(.bool (decide ((q:Int)<((ab ((c.blocks.getD k default).ins.getD n default)).length:Int)))))] V fun _=>zd 4 5 (fun pc=>?_) fun pc=>?_)
   ·have rW:=dm rK.2.1 (k:=q) M;obtain⟨p6,mY⟩:=Sv.view (OS.sv go dn (i:=7) V);have rn:=fI (mY q);refine wrp 2 62 63 [12] [(12,(iI ((ab ((c.blocks.getD k default).ins.getD n default)).getD q 0)))] (Ha_ (Sv.ix (j:=(q:Int)) (OS.sv go dn (i:=7) V)) (Hl_ 1 (ql 3 0 (vI (mY q)) V V) Hn_)) (by kernel_rfl) V fun _=>?_
    obtain⟨p7,mZ⟩:=Sv.view (OS.sv a6 dn (i:=4) V);have n6:=fL (mZ k);obtain⟨hz,m0⟩:=Sv.view (SR.sv n6 dn);have ko:=fL (m0 (n+1));refine wrp 2 64 73 [] [(71,(sL (cA (hz (n+1)) 0) ((A.getD k default).getD (n+1) default).length (cK (hz (n+1)) 0))),(72,(iI (((A.getD k default).getD (n+1) default).length:Int))),(73,(iI 0))] (Ha_ (Sv.ix (j:=(k:Int)) (OS.sv a6 dn (i:=4) V)) (Hl_ 3 (ql 54 0 (vL (mZ k)) V V) (Ha_ (vi (n:=(n:Int)+1)) (Ha_ (Sv.ix (j:=(n:Int)+1) (SR.sv n6 dn)) (Hl_ 7 (ql 22 0 (vL (m0 (n+1))) V V) Hn_))))) (by kernel_rfl) V fun _=>ah (fun(mm:Nat) f H'=> ∃(U:List Hd) (E:List (List U64)) (p:Nat) (a1:Fp) (ax:Option Addr) (a0:Nat) (d3:Fp) (F':Fz),Fz.le o5 F'/\HS (Base.of H []) F' H' [f7,a1,d3,(fP z [(sL ax U.length a0)]),g9,nm,nn,nj] R/\OS F' (sL ax U.length a0) U a1/\SF F' U E d3/\aA f [(1,(pT b1 0)),(3,(pT z 0)),(5,(.func (.func 57) #[] #[(pT z 0)])),(6,(sL fd A.length fi)),(7,(iI (k:Int))),(9,(iI (n:Int))),(10,(pT k0 0)),(12,(iI ((ab ((c.blocks.getD k default).ins.getD n default)).getD q 0))),(42,(sL c8 c.blocks.length dd)),(43,(iI (c.blocks.length:Int))),(44,(iI (k:Int))),(50,(sL (cA (a2 k) 0) (c.blocks.getD k default).ins.length (cK (a2 k) 0))),(51,(iI ((c.blocks.getD k default).ins.length:Int))),(52,(iI (n:Int))),(58,(sL kz (ab ((c.blocks.getD k default).ins.getD n default)).length nh)),(59,(iI ((ab ((c.blocks.getD k default).ins.getD n default)).length:Int))),(60,(iI (q:Int))),(71,(sL (cA (hz (n+1)) 0) ((A.getD k default).getD (n+1) default).length (cK (hz (n+1)) 0))),(72,(iI (((A.getD k default).getD (n+1) default).length:Int))),(73,(iI (p:Int)))]/\mm=(((A.getD k default).getD (n+1) default)).length-p/\(RwF c E (E3 c k n q ((A.getD k default).getD (n+1) default) p))/\(p<=(((A.getD k default).getD (n+1) default)).length)) _ ⟨hb,h1,0,b6,bb,b2,d2,_,fR,dn,f6,g8,⟨V,V,V,V,V,V,V,V,V,V,V,V,V,V,V,V,V,V,V,V,trivial⟩,V,(rw_e3 n4),M⟩ ?_
    rintro qN rm q9 ⟨U,E,p,a1,ax,a0,d3,kx,hE,c5,a_,f0,lf,rfl,hl,hp⟩ ne;refine ap _ lf (fun _=>?_);clear lf;replace ko:=ko.mono hE;have o0:=FAM.len f0;refine aj 1 V (wT 2 [] 74 74 [] [(74,(.bool (decide ((p:Int)<(((A.getD k default).getD (n+1) default).length:Int)))))] V fun _=>zd 4 5 (fun pd=>?_) fun pd=>?_)
    ·have rX:0<=(((A.getD k default).getD (n+1) default)).getD p 0/\(((A.getD k default).getD (n+1) default)).getD p 0<c.regs:=by(have hm:=(pl.mem _).1 (i8 (l:=((A.getD k default).getD (n+1) default)) (q:=p) M);have hh:=eB vF lx hm.2;omega)
     obtain⟨p8,m7⟩:=Sv.view (SR.sv ko c5);have rq:=fI (m7 p);refine wrp 2 75 76 [14] [(14,(iI (((A.getD k default).getD (n+1) default).getD p 0)))] (Ha_ (Sv.ix (j:=(p:Int)) (SR.sv ko c5)) (Hl_ 1 (ql 3 0 (vI (m7 p)) V V) Hn_)) (by kernel_rfl) V fun _=>wrp 1 77 93 [] [(93,(.bool (((((A.getD k default).getD (n+1) default).getD p 0) !=((ab ((c.blocks.getD k default).ins.getD n default)).getD q 0))&&(!((((c.blocks.getD k default).ins.getD n default).i.op==10)&&((((A.getD k default).getD (n+1) default).getD p 0)==((c.blocks.getD k default).ins.getD n default).i.b))))))] (bt 6 (fun _=>(ql 3 0 (HS.hc c5 (i:=6) V) V V)) (Hl2_ 12 (fun _ _=>(ql 3 2 (HS.hc c5 (i:=6) V) V V)) Hn_)) V V fun _=>zi 0 2 (fun hS=>?_) fun hS=>?_
     ·try simp only[BS]at hS
      have g4:=hS;have oa:eok c k n ((ab ((c.blocks.getD k default).ins.getD n default)).getD q 0) ((((A.getD k default).getD (n+1) default)).getD p 0):=⟨g4.1,fun h=>by have h2:=g4.2;simp_all⟩
      have qB:=hl.len;have tB:=hl.row ((ab ((c.blocks.getD k default).ins.getD n default)).getD q 0).toNat M;have tC:=hl.row ((((A.getD k default).getD (n+1) default)).getD p 0).toNat M;have tx:=n64 (s:=E.getD ((ab ((c.blocks.getD k default).ins.getD n default)).getD q 0).toNat default) (n:=(((A.getD k default).getD (n+1) default)).getD p 0) M;have tu:=n64 (s:=E.getD ((((A.getD k default).getD (n+1) default)).getD p 0).toNat default) (n:=(ab ((c.blocks.getD k default).ins.getD n default)).getD q 0) M;have rH:((ab ((c.blocks.getD k default).ins.getD n default)).getD q 0).toNat≠((((A.getD k default).getD (n+1) default)).getD p 0).toNat:=by have:=g4.1;omega
      refine aa (zm (.func (.func 57) #[] #[(pT z 0)]) (zm (iI ((ab ((c.blocks.getD k default).ins.getD n default)).getD q 0)) (zm (iI (((A.getD k default).getD (n+1) default).getD p 0)) (aH (R:=fun v H'=> ∃(ho:List Hd) (rlc:List (List U64)) (c3:Fp) (ci:Option Addr) (c0:Nat) (f2:Fp) (F':Fz),Fz.le kx F'/\HS (Base.of H []) F' H' [f7,c3,f2,(fP z [(sL ci ho.length c0)]),g9,nm,nn,nj] R/\OS F' (sL ci ho.length c0) ho c3/\SF F' ho rlc f2/\v= .tuple #[]/\(Con E rlc ((ab ((c.blocks.getD k default).ins.getD n default)).getD q 0) (((A.getD k default).getD (n+1) default).getD p 0))) (ap_callc V V V V) V V ?_ ?_))))
      ·refine aC Tryd.func57 V V (aj 1 V (aa ?_));obtain⟨qa,oL⟩:=Sv.view (OS.sv a_ c5 (i:=1) V);obtain⟨qm,oe,hJ,e5,ov⟩:=SF.open f0 c5 (q:=2) (i:=((ab ((c.blocks.getD k default).ins.getD n default)).getD q 0).toNat) V M;have e5:OS kx (sL (U.getD (((ab ((c.blocks.getD k default).ins.getD n default)).getD q 0).toNat) default).a (U.getD (((ab ((c.blocks.getD k default).ins.getD n default)).getD q 0).toNat) default).n (U.getD (((ab ((c.blocks.getD k default).ins.getD n default)).getD q 0).toNat) default).k) (E.getD (((ab ((c.blocks.getD k default).ins.getD n default)).getD q 0).toNat) default) oe:=e5;have qH:=OS.nlen e5;have qS:in64 (((A.getD k default).getD (n+1) default).getD p 0)->in64 (Int.tdiv (((A.getD k default).getD (n+1) default).getD p 0) 64):=fun h=>vq h e_
       obtain⟨qb,m8⟩:=Sv.view (OS.sv e5 hJ (i:=8) V);have rr:=fU (m8 ((Int.tdiv (((A.getD k default).getD (n+1) default).getD p 0) 64).toNat));refine bn 14 0 5 18 [] [(17,(.int .u64 (aX .or .u64 (((E.getD (((ab ((c.blocks.getD k default).ins.getD n default)).getD q 0).toNat) default).getD ((Int.tdiv (((A.getD k default).getD (n+1) default).getD p 0) 64).toNat) default).n) (IntKind.u64.wrap (1 *2^(Nat.min ((Int.tmod (((A.getD k default).getD (n+1) default).getD p 0) 64).toNat) 64)))))),(18,(.pointer (some ⟨sB (sL (U.getD (((ab ((c.blocks.getD k default).ins.getD n default)).getD q 0).toNat) default).a (U.getD (((ab ((c.blocks.getD k default).ins.getD n default)).getD q 0).toNat) default).n (U.getD (((ab ((c.blocks.getD k default).ins.getD n default)).getD q 0).toNat) default).k),sO (sL (U.getD (((ab ((c.blocks.getD k default).ins.getD n default)).getD q 0).toNat) default).a (U.getD (((ab ((c.blocks.getD k default).ins.getD n default)).getD q 0).toNat) default).n (U.getD (((ab ((c.blocks.getD k default).ins.getD n default)).getD q 0).toNat) default).k)+((Int.tdiv (((A.getD k default).getD (n+1) default).getD p 0) 64).toNat) *Rp.sz U64,none⟩)))] (Hr_ 0 3 (Ha_ (Sv.ix (j:=((ab ((c.blocks.getD k default).ins.getD n default)).getD q 0)) (OS.sv a_ c5 (i:=1) V)) (Hl_ 3 (ql 101 0 (vH (oL (((ab ((c.blocks.getD k default).ins.getD n default)).getD q 0).toNat))) V V) (Ha_ (vA (show(64:Int)≠0 from by decide) (vq (a:=(((A.getD k default).getD (n+1) default).getD p 0)) (b:=64) M e_)) (Ha_ (Sv.ix (j:=Int.tdiv (((A.getD k default).getD (n+1) default).getD p 0) 64) (OS.sv e5 hJ (i:=8) V)) (Hl_ 7 (ql 105 0 (vU (m8 ((Int.tdiv (((A.getD k default).getD (n+1) default).getD p 0) 64).toNat))) V V) (Ha_ (show(64:Int)≠0 from by decide) (Ha_ (vu (n:=Int.tmod (((A.getD k default).getD (n+1) default).getD p 0) 64) M) (Ha_ (show(0:Int)<=Int.tmod (((A.getD k default).getD (n+1) default).getD p 0) 64 from by omega) (Ha_ (Sv.ix (j:=Int.tdiv (((A.getD k default).getD (n+1) default).getD p 0) 64) (OS.sv e5 hJ (i:=8) V)) Hn_)))))))))) c5 V V fun _=>d5 (cy (α:=U64) (j:=(Int.tdiv (((A.getD k default).getD (n+1) default).getD p 0) 64).toNat) (off:=0) (q:=8) ⟨aX .or .u64 (((E.getD (((ab ((c.blocks.getD k default).ins.getD n default)).getD q 0).toNat) default).getD ((Int.tdiv (((A.getD k default).getD (n+1) default).getD p 0) 64).toNat) default).n) (IntKind.u64.wrap (1 *2^(Nat.min ((Int.tmod (((A.getD k default).getD (n+1) default).getD p 0) 64).toNat) 64)))⟩ e5 hJ V V V V V V V V (aT (x:=default) M) V (by rintro cs ⟨rfl,_⟩;exact⟨a06 V,V,by(dsimp only;exact fG _ _ _)⟩)) V ?_
       rintro _ re ry ⟨l1,oI,_⟩;have pK:=OS.len' l1;refine ae 1 V ?_;obtain⟨qp,hK,ll⟩:=SF.shut ov fR oI (q:=2) (m:=8) e_ V V l1;have qi:=FAM.len ll;have rx:((E.set (((ab ((c.blocks.getD k default).ins.getD n default)).getD q 0).toNat) ((E.getD (((ab ((c.blocks.getD k default).ins.getD n default)).getD q 0).toNat) default).set ((Int.tdiv (((A.getD k default).getD (n+1) default).getD p 0) 64).toNat) ⟨aX .or .u64 (((E.getD (((ab ((c.blocks.getD k default).ins.getD n default)).getD q 0).toNat) default).getD ((Int.tdiv (((A.getD k default).getD (n+1) default).getD p 0) 64).toNat) default).n) (IntKind.u64.wrap (1 *2^(Nat.min ((Int.tmod (((A.getD k default).getD (n+1) default).getD p 0) 64).toNat) 64)))⟩)).getD (((A.getD k default).getD (n+1) default).getD p 0).toNat default).length=(E.getD (((A.getD k default).getD (n+1) default).getD p 0).toNat default).length:=by rw[dI,if_neg (fun e=>rH e.1)]
       refine aa ?_;obtain⟨qc,oM⟩:=Sv.view (OS.sv a_ hK (i:=1) V);obtain⟨qo,og,hM,e6,ow⟩:=SF.open ll hK (q:=2) (i:=(((A.getD k default).getD (n+1) default).getD p 0).toNat) V M;have e6:OS kx (sL (U.getD (((A.getD k default).getD (n+1) default).getD p 0).toNat default).a (U.getD (((A.getD k default).getD (n+1) default).getD p 0).toNat default).n (U.getD (((A.getD k default).getD (n+1) default).getD p 0).toNat default).k) ((E.set (((ab ((c.blocks.getD k default).ins.getD n default)).getD q 0).toNat) ((E.getD (((ab ((c.blocks.getD k default).ins.getD n default)).getD q 0).toNat) default).set ((Int.tdiv (((A.getD k default).getD (n+1) default).getD p 0) 64).toNat) ⟨aX .or .u64 (((E.getD (((ab ((c.blocks.getD k default).ins.getD n default)).getD q 0).toNat) default).getD ((Int.tdiv (((A.getD k default).getD (n+1) default).getD p 0) 64).toNat) default).n) (IntKind.u64.wrap (1 *2^(Nat.min ((Int.tmod (((A.getD k default).getD (n+1) default).getD p 0) 64).toNat) 64)))⟩)).getD (((A.getD k default).getD (n+1) default).getD p 0).toNat default) og:=e6;have qI:=OS.nlen e6;have qT:in64 ((ab ((c.blocks.getD k default).ins.getD n default)).getD q 0)->in64 (Int.tdiv ((ab ((c.blocks.getD k default).ins.getD n default)).getD q 0) 64):=fun h=>vq h e_
       obtain⟨qd,m9⟩:=Sv.view (OS.sv e6 hM (i:=9) V);have rt:=fU (m9 ((Int.tdiv ((ab ((c.blocks.getD k default).ins.getD n default)).getD q 0) 64).toNat));refine bn 14 0 19 32 [] [(31,(.int .u64 (aX .or .u64 ((((E.set (((ab ((c.blocks.getD k default).ins.getD n default)).getD q 0).toNat) ((E.getD (((ab ((c.blocks.getD k default).ins.getD n default)).getD q 0).toNat) default).set ((Int.tdiv (((A.getD k default).getD (n+1) default).getD p 0) 64).toNat) ⟨aX .or .u64 (((E.getD (((ab ((c.blocks.getD k default).ins.getD n default)).getD q 0).toNat) default).getD ((Int.tdiv (((A.getD k default).getD (n+1) default).getD p 0) 64).toNat) default).n) (IntKind.u64.wrap (1 *2^(Nat.min ((Int.tmod (((A.getD k default).getD (n+1) default).getD p 0) 64).toNat) 64)))⟩)).getD (((A.getD k default).getD (n+1) default).getD p 0).toNat default).getD ((Int.tdiv ((ab ((c.blocks.getD k default).ins.getD n default)).getD q 0) 64).toNat) default).n) (IntKind.u64.wrap (1 *2^(Nat.min ((Int.tmod ((ab ((c.blocks.getD k default).ins.getD n default)).getD q 0) 64).toNat) 64)))))),(32,(.pointer (some ⟨sB (sL (U.getD (((A.getD k default).getD (n+1) default).getD p 0).toNat default).a (U.getD (((A.getD k default).getD (n+1) default).getD p 0).toNat default).n (U.getD (((A.getD k default).getD (n+1) default).getD p 0).toNat default).k),sO (sL (U.getD (((A.getD k default).getD (n+1) default).getD p 0).toNat default).a (U.getD (((A.getD k default).getD (n+1) default).getD p 0).toNat default).n (U.getD (((A.getD k default).getD (n+1) default).getD p 0).toNat default).k)+((Int.tdiv ((ab ((c.blocks.getD k default).ins.getD n default)).getD q 0) 64).toNat) *Rp.sz U64,none⟩)))] (Hr_ 0 3 (Ha_ (Sv.ix (j:=(((A.getD k default).getD (n+1) default).getD p 0)) (OS.sv a_ hK (i:=1) V)) (Hl_ 3 (ql 101 0 (vH (oM (((A.getD k default).getD (n+1) default).getD p 0).toNat)) V V) (Ha_ (vA (show(64:Int)≠0 from by decide) (vq (a:=((ab ((c.blocks.getD k default).ins.getD n default)).getD q 0)) (b:=64) M e_)) (Ha_ (Sv.ix (j:=Int.tdiv ((ab ((c.blocks.getD k default).ins.getD n default)).getD q 0) 64) (OS.sv e6 hM (i:=9) V)) (Hl_ 7 (ql 105 0 (vU (m9 ((Int.tdiv ((ab ((c.blocks.getD k default).ins.getD n default)).getD q 0) 64).toNat))) V V) (Ha_ (show(64:Int)≠0 from by decide) (Ha_ (vu (n:=Int.tmod ((ab ((c.blocks.getD k default).ins.getD n default)).getD q 0) 64) M) (Ha_ (show(0:Int)<=Int.tmod ((ab ((c.blocks.getD k default).ins.getD n default)).getD q 0) 64 from by omega) (Ha_ (Sv.ix (j:=Int.tdiv ((ab ((c.blocks.getD k default).ins.getD n default)).getD q 0) 64) (OS.sv e6 hM (i:=9) V)) Hn_)))))))))) hK V V fun _=>d5 (cy (α:=U64) (j:=(Int.tdiv ((ab ((c.blocks.getD k default).ins.getD n default)).getD q 0) 64).toNat) (off:=0) (q:=9) ⟨aX .or .u64 ((((E.set (((ab ((c.blocks.getD k default).ins.getD n default)).getD q 0).toNat) ((E.getD (((ab ((c.blocks.getD k default).ins.getD n default)).getD q 0).toNat) default).set ((Int.tdiv (((A.getD k default).getD (n+1) default).getD p 0) 64).toNat) ⟨aX .or .u64 (((E.getD (((ab ((c.blocks.getD k default).ins.getD n default)).getD q 0).toNat) default).getD ((Int.tdiv (((A.getD k default).getD (n+1) default).getD p 0) 64).toNat) default).n) (IntKind.u64.wrap (1 *2^(Nat.min ((Int.tmod (((A.getD k default).getD (n+1) default).getD p 0) 64).toNat) 64)))⟩)).getD (((A.getD k default).getD (n+1) default).getD p 0).toNat default).getD ((Int.tdiv ((ab ((c.blocks.getD k default).ins.getD n default)).getD q 0) 64).toNat) default).n) (IntKind.u64.wrap (1 *2^(Nat.min ((Int.tmod ((ab ((c.blocks.getD k default).ins.getD n default)).getD q 0) 64).toNat) 64)))⟩ e6 hM V V V V V V V V (aT (x:=default) M) V (by rintro cs ⟨rfl,_⟩;exact⟨a06 V,V,by(dsimp only;exact fG _ _ _)⟩)) V ?_
       rintro _ rf rz ⟨l2,oJ,_⟩;have pL:=OS.len' l2;refine ae 0 V ?_;obtain⟨ot,oK,lr⟩:=SF.shut ow fR oJ (q:=2) (m:=9) e_ V V l2;have qj:=FAM.len lr;refine bp ⟨.inl V,_,V,U,(E.set (((ab ((c.blocks.getD k default).ins.getD n default)).getD q 0).toNat) ((E.getD (((ab ((c.blocks.getD k default).ins.getD n default)).getD q 0).toNat) default).set ((Int.tdiv (((A.getD k default).getD (n+1) default).getD p 0) 64).toNat) ⟨aX .or .u64 (((E.getD (((ab ((c.blocks.getD k default).ins.getD n default)).getD q 0).toNat) default).getD ((Int.tdiv (((A.getD k default).getD (n+1) default).getD p 0) 64).toNat) default).n) (IntKind.u64.wrap (1 *2^(Nat.min ((Int.tmod (((A.getD k default).getD (n+1) default).getD p 0) 64).toNat) 64)))⟩)).set (((A.getD k default).getD (n+1) default).getD p 0).toNat (((E.set (((ab ((c.blocks.getD k default).ins.getD n default)).getD q 0).toNat) ((E.getD (((ab ((c.blocks.getD k default).ins.getD n default)).getD q 0).toNat) default).set ((Int.tdiv (((A.getD k default).getD (n+1) default).getD p 0) 64).toNat) ⟨aX .or .u64 (((E.getD (((ab ((c.blocks.getD k default).ins.getD n default)).getD q 0).toNat) default).getD ((Int.tdiv (((A.getD k default).getD (n+1) default).getD p 0) 64).toNat) default).n) (IntKind.u64.wrap (1 *2^(Nat.min ((Int.tmod (((A.getD k default).getD (n+1) default).getD p 0) 64).toNat) 64)))⟩)).getD (((A.getD k default).getD (n+1) default).getD p 0).toNat default).set ((Int.tdiv ((ab ((c.blocks.getD k default).ins.getD n default)).getD q 0) 64).toNat) ⟨aX .or .u64 ((((E.set (((ab ((c.blocks.getD k default).ins.getD n default)).getD q 0).toNat) ((E.getD (((ab ((c.blocks.getD k default).ins.getD n default)).getD q 0).toNat) default).set ((Int.tdiv (((A.getD k default).getD (n+1) default).getD p 0) 64).toNat) ⟨aX .or .u64 (((E.getD (((ab ((c.blocks.getD k default).ins.getD n default)).getD q 0).toNat) default).getD ((Int.tdiv (((A.getD k default).getD (n+1) default).getD p 0) 64).toNat) default).n) (IntKind.u64.wrap (1 *2^(Nat.min ((Int.tmod (((A.getD k default).getD (n+1) default).getD p 0) 64).toNat) 64)))⟩)).getD (((A.getD k default).getD (n+1) default).getD p 0).toNat default).getD ((Int.tdiv ((ab ((c.blocks.getD k default).ins.getD n default)).getD q 0) 64).toNat) default).n) (IntKind.u64.wrap (1 *2^(Nat.min ((Int.tmod ((ab ((c.blocks.getD k default).ins.getD n default)).getD q 0) 64).toNat) 64)))⟩),a1,ax,a0,ot,_,fR,(HS.sub oK (a02 _ _)),a_,lr,V,(con_two M M rH a0c a0c (fun i=>add_ok M X i) (fun i=>add_ok M X i))⟩
      rintro _ rc ⟨ho,rlc,c3,ci,c0,f2,qV,ox,oH,hX,hW,rfl,hcon⟩;have o1:=FAM.len hW;refine eN (aj 2 V (wU 1 [] 73 73 [98] [(73,(iI ((p:Int)+1)))] (vi (n:=(p:Int)+1)) V fun _=>?_));refine ne _ _ _ ?_ ⟨ho,rlc,p+1,c3,ci,c0,f2,_,(fT (hE) ox),oH,hX,hW,⟨V,V,V,V,V,V,V,V,V,V,V,V,V,V,V,V,V,V,V,V,trivial⟩,V,(rw_yes M hl hcon rW.1 rX.1 oa),M⟩;omega
     try simp only[BS]at hS
     have g4:=hS;have oa: ¬eok c k n ((ab ((c.blocks.getD k default).ins.getD n default)).getD q 0) ((((A.getD k default).getD (n+1) default)).getD p 0):=fun he=>he.2 (g4 he.1)
     refine wU 1 [] 73 73 [98] [(73,(iI ((p:Int)+1)))] (vi (n:=(p:Int)+1)) V fun _=>?_
     refine ne _ _ _ ?_ ⟨U,E,p+1,a1,ax,a0,d3,_,(hE),c5,a_,f0,⟨V,V,V,V,V,V,V,V,V,V,V,V,V,V,V,V,V,V,V,V,trivial⟩,V,(rw_no M hl oa),M⟩;omega
    refine wU 1 [] 60 60 [99] [(60,(iI ((q:Int)+1)))] (vi (n:=(q:Int)+1)) V fun _=>?_
    refine oQ _ _ _ ?_ ⟨U,E,q+1,a1,ax,a0,d3,_,(fT (hD) hE),c5,a_,f0,⟨V,V,V,V,V,V,V,V,V,V,V,V,V,V,V,V,trivial⟩,V,(rw_e2s pl hl (show q<(ab ((c.blocks.getD k default).ins.getD n default)).length by omega) M),M⟩;omega
   refine wU 1 [] 52 52 [100] [(52,(iI ((n:Int)+1)))] (vi (n:=(n:Int)+1)) V fun _=>?_
   refine oP _ _ _ ?_ ⟨hb,h1,n+1,b6,bb,b2,d2,_,(fT (fT (g3) hC) hD),(HS.sub dn (a02 _ _)),f6,g8,⟨V,V,V,V,V,V,V,V,V,V,V,trivial⟩,V,(rw_e1s n4 (show(ab ((c.blocks.getD k default).ins.getD n default)).length<=q by omega)),M⟩;omega
  refine wU 1 [] 44 44 [101] [(44,(iI ((k:Int)+1)))] (vi (n:=(k:Int)+1)) V fun _=>?_
  refine oO _ _ _ ?_ ⟨ha,h0,k+1,b5,a8,bz,d1,_,(fT (g2) g3),(HS.sub hI (a02 _ _)),co,dt,⟨V,V,V,V,V,V,V,trivial⟩,V,(rw_e0 n3 (show(c.blocks.getD k default).ins.length=n by omega)),M⟩;omega
 refine aa (bn 2 0 102 103 [] [(103,(iI c.regs))] (Hr_ 1 0 Hn_) g6 V V fun _=>aV (cG (default:Hd) g6 V V V V V V V V V V M M) V V ?_);rintro _ pW oU ⟨ky,ng,rfl,nF,nJ,_⟩;have jq:=HS.snoc nJ;have it:SF kt (List.replicate c.regs.toNat (default:Hd)) (List.replicate c.regs.toNat ([]:List Int)) []:=SF.rep _;have po:=FAM.len it;refine za (sL ky (List.replicate c.regs.toNat (default:Hd)).length ng) (ae 3 V (bF 2 105 107 [] [(106,(iI (d4.length:Int))),(107,(iI 0))] (Hr_ 0 3 Hn_) jq V V fun _=>ah (fun(mm:Nat) f H'=> ∃(hg:List Hd) (kn:List (List U64)) (oh:List Hd) (ol:List (List Int)) (k:Nat) (ar:Option Addr) (av:Nat) (dl:Fp) (cc:Fp) (b8:Option Addr) (b9:Nat) (e3:Fp) (e2:Fp) (F':Fz),Fz.le kt F'/\HS (Base.of H []) F' H' [f7,cc,e2,(fP z [(sL b8 hg.length b9)]),g9,dl,e3] R/\OS F' (sL ar oh.length av) oh dl/\OS F' (sL b8 hg.length b9) hg cc/\SF F' oh ol e3/\SF F' hg kn e2/\aA f [(1,(pT b1 0)),(3,(pT z 0)),(15,(sL ar oh.length av)),(106,(iI (d4.length:Int))),(107,(iI (k:Int)))]/\mm=c.regs.toNat-k/\(RwF c kn (ie c))/\(ol.length=c.regs.toNat)/\(∀r,r<k->Lst (dw ol r) (Sy (ie c) r))/\(∀r,k<=r->dw ol r=[])/\(k<=c.regs.toNat)) _ ⟨d4,hY,List.replicate c.regs.toNat (default:Hd),List.replicate c.regs.toNat ([]:List Int),0,ky,ng,oU,b4,a7,bl,[],dv,_,fR,jq,nF,f5,it,g7,⟨V,V,V,V,V,trivial⟩,V,(rw_last nk M),u_,(by intro r hr;omega),(fun r _=>row_rep),M⟩ ?_));rintro pR qe pX ⟨hg,kn,oh,ol,k,ar,av,dl,cc,b8,b9,e3,e2,n9,ib,jw,dk,hR,e0,hf,iv,rfl,n5,pg,nX,nY,hk⟩ nT;refine ap _ iv (fun _=>?_);clear iv;have oj:=FAM.len e0;have oi:=FAM.len hf;refine aj 1 V (wT 2 [] 108 108 [] [(108,(.bool (decide ((k:Int)<(d4.length:Int)))))] V fun _=>zd 4 5 (fun ob=>?_) fun ob=>?_)
 ·have qC:=n5.len;refine wT 2 [] 109 109 [16] [(16,(iI (k:Int)))] V fun _=>wT 2 [] 1 0 [17] [(17,(iI 0))] V fun _=>ah (fun(mm:Nat) f H'=> ∃(ea:List Hd) (em:List (List U64)) (a4:List Hd) (b7:List (List Int)) (n:Nat) (N:Option Addr) (T:Nat) (ch:Fp) (al:Fp) (Z:Option Addr) (ad:Nat) (c7:Fp) (e4:Fp) (F':Fz),Fz.le n9 F'/\HS (Base.of H []) F' H' [f7,al,e4,(fP z [(sL Z ea.length ad)]),g9,ch,c7] R/\OS F' (sL N a4.length T) a4 ch/\OS F' (sL Z ea.length ad) ea al/\SF F' a4 b7 c7/\SF F' ea em e4/\aA f [(1,(pT b1 0)),(3,(pT z 0)),(15,(sL N a4.length T)),(16,(iI (k:Int))),(17,(iI (n:Int))),(106,(iI (d4.length:Int))),(107,(iI (k:Int)))]/\mm=c.regs.toNat-n/\(RwF c em (ie c))/\(b7.length=c.regs.toNat)/\(∀r,r<k->Lst (dw b7 r) (Sy (ie c) r))/\(∀r,k<r->dw b7 r=[])/\(Lst (dw b7 k) (upS em k n))/\(n<=c.regs.toNat)) _ ⟨hg,kn,oh,ol,0,ar,av,dl,cc,b8,b9,e3,e2,_,fR,jw,dk,hR,e0,hf,⟨V,V,V,V,V,V,V,trivial⟩,V,(n5),M,(nX),(fun r hr=>nY r M),(by rw[nY k (a0b _)];exact up_zero),M⟩ ?_
  rintro pS qf pY ⟨ea,em,a4,b7,n,N,T,ch,al,Z,ad,c7,e4,kr,hA,et,a5,a3,e1,f4,iz,rfl,ht,nZ,l3,l4,jb,hn⟩ kk;refine ap _ iz (fun _=>?_);clear iz;have oo:=FAM.len e1;have om:=FAM.len f4;have oy:=ht.len;have oA:=ht.row k M;have qw:((b7.getD k default).length:Int)<=c.regs:=Lst.len jb rJ.1 (fun r h=>by have:=h.2;omega);refine aj 2 V (bF 1 110 113 [] [(113,(.bool (decide ((n:Int)<c.regs))))] (Hr_ 2 0 Hn_) et V V fun _=>zd 4 5 (fun oc=>?_) fun oc=>?_)
  ·have oy:=ht.len;have oA:=ht.row k M;obtain⟨pk,nR⟩:=Sv.view (OS.sv a3 et (i:=1) V);obtain⟨pw,np,ez,c9,h9⟩:=SF.open f4 et (q:=2) (i:=k) V M;have c9:OS kr (sL (ea.getD k default).a (ea.getD k default).n (ea.getD k default).k) (em.getD k default) np:=c9;have pO:=OS.nlen c9;obtain⟨pm,ki⟩:=Sv.view (OS.sv c9 ez (i:=7) V);have qq:=fU (ki (n/64));refine bF 1 116 129 [] [(129,(.bool (aX .and .u64 (Int.fdiv ((em.getD k default).getD (n/64) default).n (2^(Nat.min (n%64) 64))) 1==1)))] (Hr_ 0 3 (Ha_ (Sv.ix (j:=(k:Int)) (OS.sv a3 et (i:=1) V)) (Hl_ 3 (ql 101 0 (vH (nR k)) V V) (Ha_ (vA (show(64:Int)≠0 from by decide) (vi (n:=((n/64:Nat):Int)))) (Ha_ (Sv.ix (j:=((n/64:Nat):Int)) (OS.sv c9 ez (i:=7) V)) (Hl_ 7 (ql 105 0 (vU (ki (n/64))) V V) (Ha_ (show(64:Int)≠0 from by decide) (Ha_ (vu (n:=((n%64:Nat):Int)) M) (Ha_ (show(0:Int)<=((n%64:Nat):Int) from by omega) Hn_))))))))) et V V fun _=>zi 0 2 (fun h3=>?_) fun h3=>?_
   ·try simp only[BS]at h3
    have fz:=jD (s:=em.getD k default) (k:=n/64) (b:=n%64) X M;rw[show 64 *(n/64)+n%64=n by omega]at fz;refine aa ?_;obtain⟨pn,nS⟩:=Sv.view (OS.sv a5 ez (i:=5) V);obtain⟨py,nq,nK,f8,nB⟩:=SF.open e1 ez (q:=6) (i:=k) V M;have f8:OS kr (sL (a4.getD k default).a (a4.getD k default).n (a4.getD k default).k) (b7.getD k default) nq:=f8;have pP:=OS.nlen f8;refine cj 7 0 130 136 [] [(130,(sL N a4.length T)),(131,(iI (k:Int))),(135,(sL (a4.getD k default).a (a4.getD k default).n (a4.getD k default).k)),(136,(iI (n:Int)))] (Ha_ (Sv.ix (j:=(k:Int)) (OS.sv a5 ez (i:=5) V)) (Hl_ 5 (ql 22 0 (vH (nS k)) V V) Hn_)) (by kernel_rfl) V fun _=>zlo ([(n:Int)]:List Int) nK V (RL.cs ⟨V,by omega⟩ RL.nl) V fun p4 qE qO pZ nG kc=>zao 8 f8 kc (OS.sv nG kc (i:=9) V) V V V M fun hu hQ qP p0 nH kd=>cj 1 9 139 139 [] [(139,(.pointer (some ⟨sB (sL N a4.length T),sO (sL N a4.length T)+k *Rp.sz Hd,none⟩)))] (Ha_ (Sv.ix (j:=(k:Int)) (OS.sv a5 kd (i:=5) V)) Hn_) (by kernel_rfl) V fun _=>?_
    obtain⟨ny,nL,i2⟩:=SF.shutN (⟨hu,((b7.getD k default)++([(n:Int)]:List Int)).length,hQ⟩:Hd) nB fR kd (q:=6) (m:=8) e_ V V nH;have pq:=FAM.len i2;refine d5 (cy (α:=Hd) (j:=k) (off:=0) (q:=5) (⟨hu,((b7.getD k default)++([(n:Int)]:List Int)).length,hQ⟩:Hd) a5 nL V V V V V V V V (aT (x:=default) M) V (by rintro cs rfl;exact⟨a06 V,V⟩)) V ?_;rintro _ p1 oV ⟨hF,nM,_⟩;have pe:=OS.len' hF;refine ae 2 V (wU 1 [] 114 115 [17] [(17,(iI ((n:Int)+1)))] (vi (n:=(n:Int)+1)) V fun _=>?_);obtain⟨nz,nN,i3⟩:=SF.shut0 h9 fR nM (q:=2) (m:=7) e_ V V c9;have pr:=FAM.len i3;refine kk _ _ _ ?_ ⟨ea,em,a4.set k (⟨hu,((b7.getD k default)++([(n:Int)]:List Int)).length,hQ⟩:Hd),b7.set k ((b7.getD k default)++([(n:Int)]:List Int)),n+1,N,T,oV,al,Z,ad,ny,nz,_,(hA),(HS.sub nN (a02 _ _)),(OS.norm hF),a3,i2,i3,(agC V (agC V (agC (show Value.slice N a4.length T=Value.slice N (a4.set k (⟨hu,((b7.getD k default)++([(n:Int)]:List Int)).length,hQ⟩:Hd)).length T by rw[OS.len' hF]) ⟨V,V,V,V,trivial⟩))),V,X,(by(rw[a0c];exact nZ)),(fun r hr=>by(rw[cZ M,if_neg M];exact l3 r hr)),(fun r hr=>by(rw[cZ M,if_neg M];exact l4 r hr)),(by(rw[cZ M,if_pos rfl];exact up_yes jb (fz.1 X))),M⟩;omega
   try simp only[BS]at h3
   have fz:=jD (s:=em.getD k default) (k:=n/64) (b:=n%64) X M;rw[show 64 *(n/64)+n%64=n by omega]at fz;refine wU 1 [] 114 115 [17] [(17,(iI ((n:Int)+1)))] (vi (n:=(n:Int)+1)) V fun _=>?_
   obtain⟨nA,nO,ja⟩:=SF.shut0 h9 fR ez (q:=2) (m:=7) e_ V V c9;have pu:=FAM.len ja;refine kk _ _ _ ?_ ⟨ea,em,a4,b7,n+1,N,T,ch,al,Z,ad,c7,nA,_,(hA),(HS.sub nO (a02 _ _)),a5,a3,e1,ja,⟨V,V,V,V,V,V,V,trivial⟩,V,X,(nZ),(fun r hr=>by exact l3 r hr),(fun r hr=>by exact l4 r hr),(up_no jb (fun h=>absurd (fz.2 h) X)),M⟩;omega
  refine wU 1 [] 107 107 [140] [(107,(iI ((k:Int)+1)))] (vi (n:=(k:Int)+1)) V fun _=>?_
  refine nT _ _ _ ?_ ⟨ea,em,a4,b7,k+1,N,T,ch,al,Z,ad,c7,e4,_,(fT (ib) hA),et,a5,a3,e1,f4,⟨V,V,V,V,V,trivial⟩,V,(ht),M,(fin_row ht M vF M l3 jb),(fun r hr=>l4 r M),M⟩;omega
 refine wT 1 [] 2 2 [141] [(2,(sL ar oh.length av))] V fun _=>?_
 obtain⟨pU,ih,nP,nC⟩:=SF.freeze e0 jw (q:=6) V;replace dk:=dk.mono ih;obtain⟨pV,ik,nQ,nI,pM⟩:=OS.frz dk nP (i:=5) V;have f9:=SR.rows nI (FAM.len e0) (fun i hi=>SR.mono ik (nC i hi));have pQ:=SR.len' f9;have pi:=SR.norm f9;refine am ⟨.inr V,_,V,ar,av,ol,_,(fT (fT (fT (fT (fT (fT (il) hB) g1) g2) ib) ih) ik),(HS.forget nQ),(Eq.trans (b:=Value.slice ar oh.length av) V (by rw[SR.len' f9])),(SR.norm f9),(fun _=>inf_of pg M nX),(fun h=>absurd (hv.symm.trans h) e_)⟩
end Go.Proofs.YtgdggmlghemecaaDoor.nb
