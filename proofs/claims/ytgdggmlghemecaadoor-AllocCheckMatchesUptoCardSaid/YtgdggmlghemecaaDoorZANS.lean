/-
Justified allocations, the reference. No condition but bounds on lengths.
-/
import Derived.Test.YtgdggmlghemecaaDoorZANX
noncomputable section
namespace Go.Proofs.YtgdggmlghemecaaDoor.ns
open Go.R
set_option maxRecDepth 10000
set_option maxHeartbeats 4000000
set_option linter.unusedVariables false
set_option linter.unusedSimpArgs false
variable (ex:FuncId) {F:Fz} {H:Heap} {R:List Fp}
open m1 m2 m3 m4 m5 m6 ma ml mb mc md mf mg mh mi mj na nb nc ni nv nt nx
def iT(f:Nat->Bool):Nat->Nat
 |0=>0
 |n+1=>iT f n+(if f n=true then 1 else 0)
theorem cntP_le{f:Nat->Bool}: ∀n,iT f n<=n
 |0=>a0b _
 |n+1=>by have:=cntP_le (f:=f) n;unfold iT;split<;>omega
theorem cntP_y{f:Nat->Bool}{n s:Nat}(h:s=iT f n)(z:f n=true):s+1=iT f (n+1):=by unfold iT;rw[if_pos z,h]
theorem cntP_n{f:Nat->Bool}{n s:Nat}(h:s=iT f n)(z:f n=false):s=iT f (n+1):=by unfold iT;rw[if_neg (by rw[z];decide),h];rfl
theorem mD{f g:Nat->Bool}: ∀n,(∀q,q<n->f q=true->g q=true)->iT f n<=iT g n/\(iT f n=iT g n->∀q,q<n->g q=true->f q=true)
 |0,_=>⟨a0b _,fun _ q h=>absurd h (a0t _)⟩
 |n+1,h=>by
  obtain⟨E,A⟩:=mD n fun q z=>h q M
  have N:=h n M;unfold iT;cases Z:f n with
  |true=>
   rw[N Z]
   refine⟨by omega,fun e q z U=>?_⟩
   rcases a1K (a1H z) with z|rfl
   ·exact A M q z U
   exact Z
  |false=>
   cases U:g n with
   |true=>exact⟨by simp;omega,fun e=>by simp at e;omega⟩
   |false=>
    refine⟨by simpa using E,fun e q z T=>?_⟩
    rcases a1K (a1H z) with z|rfl
    ·exact A (by simpa using e) q z T
    rw[U]at T;cases T
theorem cntP_eq{f g:Nat->Bool}: ∀n,(∀q,q<n->g q=f q)->iT g n=iT f n
 |0,_=>rfl
 |n+1,h=>by unfold iT;rw[cntP_eq n fun q z=>h q M,h n M]
theorem cntP_set{f g:Nat->Bool}{j:Nat}(z:f j=false): ∀n,j<n->(∀q,q<n->g q=(f q||decide (q=j)))->iT g n=iT f n+1
 |0,h,_=>absurd h (a0t _)
 |n+1,hj,h=>by
  unfold iT;rw[h n M];rcases a1K (a1H hj) with A|rfl
  ·rw[cntP_set z n A fun q E=>h q M,decide_eq_false M,a1y];omega
  rw[cntP_eq j fun q E=>by rw[h q M,decide_eq_false M,a1y],z,decide_eq_true rfl];rfl
theorem ear_cnt{c:VFnT}{a:AllT}(z:(a.locs.length:Int)=c.regs): ∀k,k<=a.spi.length->(∀j,j<k->spOK c a j)->iT (fun q=>bP (gv a k (q:Int))) a.locs.length=k
 |0,_,_=>by
  have h: ∀n,iT (fun q=>bP (gv a 0 (q:Int))) n=0:=fun n=>by
   induction n with
   |zero=>rfl
   |succ n ih=>unfold iT;rw[ih,←gx earl_0];rfl
  exact h _
 |k+1,hk,h=>by
  have A:=h k M;have E:=ear_cnt z k M fun j N=>h j M
  have e:(((spN a k).reg.toNat:Nat):Int)=(spN a k).reg:=by have:=A.1;omega
  rw[cntP_set (f:=fun q=>bP (gv a k (q:Int))) (j:=(spN a k).reg.toNat) (by rw[e];exact(gx A.2.1).symm) _ (by have:=A.1;omega) ?_,E];intro q _;rw[a0o,iA,a0z,iA,decide_eq_true_eq,earl_s];constructor
  ·rintro(h|h)
   ·exact .inl h
   exact .inr M
  rintro(h|h)
  ·exact .inl h
  exact .inr M
theorem all_iff{c:VFnT}{a:AllT}(Z:(a.locs.length:Int)=c.regs)(h: ∀j,j<a.spi.length->spOK c a j):(∀r,r<a.locs.length->(cH a r).inS=true->gv a a.spi.length (r:Int))↔iT (fun q=>(cH a q).inS) a.locs.length=a.spi.length:=by
 have N:=ear_cnt Z _ (a0b _) h;have E:=mD (f:=fun q=>bP (gv a a.spi.length (q:Int))) (g:=fun q=>(cH a q).inS) a.locs.length fun q _ T=>by obtain⟨j,U,e⟩:=iA.1 T;have A:=(h j U).2.2.1;have e:(spN a j).reg=(q:Int):=e;rw[e]at A;exact A
 constructor
 ·intro z;have A:=mD (f:=fun q=>(cH a q).inS) (g:=fun q=>bP (gv a a.spi.length (q:Int))) a.locs.length fun q hq hi=>(bP_y (z q hq hi)).symm
  omega
 exact fun e r hr hi=>iA.1 (E.2 M r hr hi)
theorem jr_no{c:VFnT}{a:AllT}{s n:Nat}(hs:s=iT (fun q=>(cH a q).inS) n)(z:n=a.locs.length)(h:s≠a.spi.length): ¬JstG c a:=fun g=>by subst z;exact h (hs.trans ((all_iff g.len g.spi).1 g.all))
theorem jr_yes{c:VFnT}{a:AllT}{s n:Nat}(hs:s=iT (fun q=>(cH a q).inS) n)(E:n=a.locs.length)(h:s=a.spi.length)(N:bT c=true)(A:(a.locs.length:Int)=c.regs)(z: ∀j,j<a.spi.length->spOK c a j):JstG c a:=by subst E;exact⟨N,A,z,(all_iff A z).2 (hs.symm.trans h)⟩
abbrev AscP(l:List Int):Prop:= ∀k,k<l.length->1<=k->l.getD (k-1) 0<l.getD k 0
abbrev inE(e:List Int)(x:Int):Prop:=bS e x=true
theorem inE_0{a:AllT}(x:Int):bS ([]:List Int) x=true↔gv a 0 x:=⟨(fun h=>by cases h),fun h=>absurd h earl_0⟩
theorem inE_s{a:AllT}{e:List Int}{k:Nat}(h: ∀x,bS e x=true↔gv a k x)(x:Int):bS (e++[(spN a k).reg]) x=true↔gv a (k+1) x:=by rw[earl_s,←h x,aM,aM,a08,a0f];exact⟨fun h=>h.imp id Eq.symm,fun h=>h.imp id Eq.symm⟩
theorem inE_e{a:AllT}{e:List Int}{k:Nat}(h: ∀x,bS e x=true↔gv a k x):inE e=gv a k:=funext fun x=>propext (h x)
structure RwF(c:VFnT)(s:SpiT)(l:List (List Int)):Prop where
 b0:0<=s.blk
 b1:s.blk.toNat<c.blocks.length
 pf:PtF c s.blk.toNat l
 i0:0<=s.idx
 i1:s.idx.toNat<=(bh c s.blk.toNat).ins.length
theorem rw_no{c:VFnT}{a:AllT}{E:Int->Prop}{s:SpiT}{l:List (List Int)}(A:bT c=true->0<=s.blk->s.blk<(c.blocks.length:Int)->PtF c s.blk.toNat l)(z:bT c=true)(T:s.why=1\/s.why=2)(N:(decide (s.idx<0)||decide ((l.length:Int)<=s.idx))=true): ¬iD c a E s:=fun h=>by
 rw[a0z,decide_eq_true_eq,decide_eq_true_eq]at N;rcases h with⟨_,h⟩|⟨_,h⟩|⟨h,_⟩
 ·have:=(A z h.1.1 (by have:=h.1;omega)).len;have:=h.2.1;omega
 ·have:=(A z h.1.1 (by have:=h.1;omega)).len;have:=h.2.1;omega
 omega
theorem rw_yes{c:VFnT}{s:SpiT}{l:List (List Int)}(E:bT c=true->0<=s.blk->s.blk<(c.blocks.length:Int)->PtF c s.blk.toNat l)(N:(bT c=false\/s.blk<0\/(c.blocks.length:Int)<=s.blk)->l=[])(T:bT c=true)(z:(decide (s.idx<0)||decide ((l.length:Int)<=s.idx))=false):RwF c s l:=by
 rw[a0F,decide_eq_false_iff_not,decide_eq_false_iff_not]at z;by_cases h:s.blk<0\/(c.blocks.length:Int)<=s.blk
 ·have:=N (.inr h);subst this;simp at z;omega
 have A:=E T M M;have:=A.len;exact⟨by omega,by omega,A,by omega,by omega⟩
theorem ra_no{c:VFnT}{a:AllT}{E:Int->Prop}{s:SpiT}{l:List (List Int)}(r:RwF c s l)(z:s.why=1)(h:decide (s.idx<(l.length:Int)-1)=false\/decide ((s.oth.length:Int)=0)=false):false=bP (iD c a E s):=gx fun g=>by have A:=(why_1 z).1 g;have:=r.pf.len;have:=A.2.1;have:=A.2.2.1;rcases h with h|h<;>(have h:=of_decide_eq_false h;omega)
theorem ra_yes{c:VFnT}{a:AllT}{E:Int->Prop}{s:SpiT}{l:List (List Int)}(r:RwF c s l)(v:VF c)(U:s.why=1)(z:0<=s.reg)(N:s.idx<(l.length:Int)-1)(T:(s.oth.length:Int)=0):bS (acV ((bh c s.blk.toNat).ins.getD s.idx.toNat default) (l.getD (s.idx+1).toNat default)) s.reg=bP (iD c a E s):=bP_of<|by have Z:=r.pf.len;have A:=r.i0;rw[aM,(ac_lst v r.b1 M (by have:=r.pf.pt (s.idx.toNat+1) M;rwa [show(s.idx+1).toNat=s.idx.toNat+1 by omega])).mem,why_1 U];exact⟨fun h=>⟨⟨r.b0,r.b1⟩,⟨r.i0,by omega⟩,by omega,h.2⟩,fun h=>⟨z,h.2.2.2⟩⟩
theorem rp_bad{c:VFnT}{a:AllT}{e:List Int}{s:SpiT}{l:List (List Int)}{q:Nat}(r:RwF c s l)(Z:s.why=2)(z:bS e s.reg=false)(U:0<=s.reg)(T:q<(s.oth++[s.reg]).length)(h:(!(bS (l.getD s.idx.toNat default) ((s.oth++[s.reg]).getD q 0))||bS e ((s.oth++[s.reg]).getD q 0))=true): ¬iD c a (inE e) s:=fun g=>by
 have E:=(why_2 Z).1 g;have N:=r.pf.pt _ r.i1;have key:bS (l.getD s.idx.toNat default) ((s.oth++[s.reg]).getD q 0)=true/\bS e ((s.oth++[s.reg]).getD q 0)=false:=by
  rw[kF];split
  ·exact⟨aM.2 ((N.mem _).2 ⟨U,E.2.2.2.1⟩),z⟩
  rw[a04,a0x]at T;have A:=E.2.2.2.2 q M;refine⟨aM.2 ((N.mem _).2 A.2.2.1),?_⟩;cases hc:bS e (s.oth.getD q 0) with
  |false=>rfl
  |true=>exact absurd hc A.2.2.2
 rw[key.1,key.2]at h;cases h
theorem rp_fin{c:VFnT}{a:AllT}{e:List Int}{s:SpiT}{l:List (List Int)}{n:Nat}(r:RwF c s l)(hw:s.why=2)(hn:(s.oth++[s.reg]).length<=n)(h: ∀q,q<n->bS (l.getD s.idx.toNat default) ((s.oth++[s.reg]).getD q 0)=true/\bS e ((s.oth++[s.reg]).getD q 0)=false):(AscP s.oth/\bS s.oth s.reg=false/\(5:Int)<=(s.oth.length:Int))↔iD c a (inE e) s:=by
 rw[a04,a0x]at hn;have Z:=r.pf.pt _ r.i1;have U: ∀q,q<s.oth.length->(s.oth++[s.reg]).getD q 0=s.oth.getD q 0:=fun q hq=>by rw[kF,if_neg M]
 rw[why_2 hw];constructor
 ·rintro⟨A,E,T⟩;refine⟨⟨r.b0,r.b1⟩,⟨r.i0,r.i1⟩,by omega,?_,fun k z=>⟨fun N=>A k z M,fun he=>?_,?_,fun hE=>?_⟩⟩
  ·have:=(h s.oth.length M).1;rw[kF,if_pos rfl]at this;exact((Z.mem _).1 (aM.1 this)).2
  ·have:s.reg∈s.oth:=by rw[←he,a03,a05 z];exact a1t z
   rw[aM.2 this]at E;cases E
  ·have:=(h k M).1;rw[U k z]at this;exact(Z.mem _).1 (aM.1 this)
  have:=(h k M).2;rw[U k z]at this;exact absurd hE (by unfold inE;rw[this];decide)
 intro g;refine⟨fun k z A=>(g.2.2.2.2 k z).1 M,?_,by have:=g.2.2.1;omega⟩;cases hc:bS s.oth s.reg with
 |false=>rfl
 |true=>
  obtain⟨k,z,e⟩:=a2j (aM.1 hc)
  refine absurd ?_ (g.2.2.2.2 k z).2.1
  rw[a03,a05 z];exact e
theorem rp_res{c:VFnT}{a:AllT}{e:List Int}{s:SpiT}{o:Bool}(h:(AscP s.oth/\bS s.oth s.reg=false/\(5:Int)<=(s.oth.length:Int))↔iD c a (inE e) s)(A:o=((bP (AscP s.oth)&& !(bS s.oth s.reg))&&decide ((5:Int)<=(s.oth.length:Int)))):o=bP (iD c a (inE e) s):=by rw[A];refine bP_of (Iff.trans ?_ h);rw[a07,a07,iA,a0B,decide_eq_true_eq,and_assoc]
theorem rc_no{c:VFnT}{a:AllT}{E:Int->Prop}{s:SpiT}(z:s.why=3)(h:((((s.oth.length:Int) !=5)||(s.blk !=0))||(s.idx !=0))=true): ¬iD c a E s:=fun g=>by have g:=(why_3 z).1 g;rw[g.1,g.2.1,g.2.2.1]at h;cases h
theorem rc_yes{s:SpiT}(h:((((s.oth.length:Int) !=5)||(s.blk !=0))||(s.idx !=0))=false):s.oth.length=5/\s.blk=0/\s.idx=0:=by simp only[a0F,bne_eq_false_iff_eq]at h;omega
theorem jr_ok{c:VFnT}{a:AllT}{e:List Int}{k:Nat}(T:0<=(spN a k).reg/\(spN a k).reg<c.regs)(A:bS e (spN a k).reg=false)(E:(!(cH a (spN a k).reg.toNat).inS)=false)(N:(!(bP (iD c a (inE e) (spN a k))))=false)(z: ∀x,bS e x=true↔gv a k x):spOK c a k:=by rw[a0Z]at E N;exact⟨T,fun h=>(by rw[(z _).2 h]at A;cases A),E,by rw[←inE_e z];exact iA.1 N⟩
theorem rasc_c{z:Option Addr}{ai:Nat}(l:List Int)(hs:HS (.of H []) F H [] R)(hl:SR F (sL z l.length ai) l)(hT:TB 37 tabC F)(ar:l.length<=1073741824):kKt ex 68 [(sL z l.length ai)] H fun v H'=> ∃(r:Bool),H'=H/\v= .bool r/\r=bP (AscP l):=by
 refine aC Tryd.func68 V V (aj 1 V (wT 3 [] 2 2 [] [(2,(.bool false))] V fun _=>wT 2 [] 1 0 [3] [(3,(iI 1))] V fun _=>ah (fun(mm:Nat) f H'=> ∃(i:Nat),H'=H/\aA f [(0,(sL z l.length ai)),(3,(iI (i:Int)))]/\mm=l.length+1-i/\(1<=i/\i<=l.length+1)/\(∀j,j<i->1<=j->l.getD (j-1) 0<l.getD j 0)) _ ⟨1,V,⟨V,V,trivial⟩,V,M,(fun j Z T=>by omega)⟩ ?_));rintro ag f3 H ⟨i,rfl,N,rfl,Z,T⟩ U;refine ap _ N (fun _=>?_);clear N;refine aj 2 V (wT 1 [] 4 7 [] [(7,(.bool (decide ((i:Int)<(l.length:Int)))))] V fun _=>zd 4 5 (fun a_=>?_) fun a_=>?_)
 ·obtain⟨ad,A⟩:=Sv.view (SR.sv hl hs);have g7:=fI (A ((i:Int)-1).toNat);have g8:=fI (A i);refine wrDp 1 10 19 [] [(19,(.bool (decide ((l.getD i 0)<=(l.getD ((i:Int)-1).toNat 0)))))] (Ha_ (vi (n:=(i:Int)-1)) (Ha_ (Sv.ix (j:=(i:Int)-1) (SR.sv hl hs)) (Hl_ 4 (ql 3 0 (hc0 (vI (A ((i:Int)-1).toNat))) V V) (Ha_ (Sv.ix (j:=(i:Int)) (SR.sv hl hs)) (Hl_ 8 (ql 3 0 (hc0 (vI (A i))) V V) Hn_))))) V (by kernel_rfl) V fun _=>zd 1 2 (fun E=>?_) fun E=>?_
  ·have an:=E;rw[show((i:Int)-1).toNat=i-1 by omega]at an;refine wT 1 [] 2 2 [] [(2,(.bool false))] V fun _=>am ⟨.inr V,_,V,false,V,V,(gx (fun h=>by(have h4:=h i M M;omega)))⟩
  have ao:=E;rw[show((i:Int)-1).toNat=i-1 by omega]at ao;refine wU 1 [] 8 9 [3] [(3,(iI ((i:Int)+1)))] (vi (n:=(i:Int)+1)) V fun _=>?_
  refine U _ _ _ ?_ ⟨i+1,V,⟨V,V,trivial⟩,V,M,(j8 T fun _=>by omega)⟩;omega
 refine wT 1 [] 2 2 [] [(2,(.bool true))] V fun _=>am ⟨.inr V,_,V,true,V,V,(bP_y (fun k hk=>T k M))⟩
theorem rasc_c_q{z:Option Addr}{A:Nat}(l:List Int)(hs:HS (.of H []) F H [] R)(T:SR F (sL z l.length A) l)(N:TB 37 tabC F)(E:l.length<=1073741824):kKt ex 68 [(sL z l.length A)] H fun v H'=>v=(.bool (bP (AscP l)))/\H'=H:=
 cq (rasc_c ex l hs T N E) (by rintro _ _ ⟨_,rfl,rfl,rfl⟩;exact⟨V,V⟩)
theorem rwhy_c{al:Option Addr}{aw:Nat}(c:VFnT){bb:Option Addr}{cc:Nat}{a9:Option Addr}{b9:Nat}(a:AllT){ly:Option Addr}{mX:Nat}(g:List (List Int)){lx:Option Addr}{mW:Nat}(e:List Int){a4:Option Addr}{a8:Nat}(s:SpiT)(hs:HS (.of H []) F H [] R)(ki:in64 c.params)(kk:in64 c.regs)(a2:SR F (sL al c.blocks.length aw) c.blocks)(b7:SR F (sL a9 a.locs.length b9) a.locs)(kd:SR F (sL bb a.spi.length cc) a.spi)(kg:in64 a.slots)(hg:SR F (sL ly g.length mX) g)(he:SR F (sL lx e.length mW) e)(kn:in64 s.reg)(ko:in64 s.why)(kr:in64 s.blk)(kt:in64 s.idx)(U:SR F (sL a4 s.oth.length a8) s.oth)(hT:TB 37 tabC F)(e6: ∀j,(c.blocks.getD j default).ins.length<=1073741822)(hv:bT c=true)(np:InF c g)(nq:0<=s.reg/\s.reg<c.regs)(nY:bS e s.reg=false)(oI:e.length<=1073741824)(oK:s.oth.length<=1073741824)(oH:(a.locs.length:Int)=c.regs):kKt ex 33 [(aG [(iI c.params),(iI c.regs),(sL al c.blocks.length aw)]),(aG [(sL a9 a.locs.length b9),(sL bb a.spi.length cc),(iI a.slots)]),(sL ly g.length mX),(sL lx e.length mW),(aG [(iI s.reg),(iI s.why),(iI s.blk),(iI s.idx),(sL a4 s.oth.length a8)])] H fun v H'=> ∃(o:Bool) (F':Fz),Fz.le F F'/\HS (.of H []) F' H' [] R/\v= .bool o/\o=bP (iD c a (inE e) s):=by
 have vF:=eU hv;have ho:=vF.regs;have oJ:=np.len;have fz:Lst (g.getD s.reg.toNat default) (Sy (ie c) s.reg.toNat):=np.row s.reg.toNat M;have z:=eX fz (fun y h=>fQ vF h);have kl:=Lst.len fz ho.1 (fun y h=>fQ vF h);refine aC Tryd.func33 V V (aj 1 V (aa (aV (aO hs V V) V V ?_)));rintro _ H2 _ ⟨b1,rfl,hB,_⟩;refine aV (aO hB V V) V V ?_;rintro _ H4 _ ⟨b3,rfl,hC,_⟩;refine aV (aO hC V V) V V ?_;rintro _ H6 _ ⟨b5,rfl,ad,_⟩;refine za (.bool false) (ae 3 V (bF 4 15 16 [] [(16,(iI s.why))] (Hr_ 1 2 Hn_) ad V V fun _=>wT 1 [] 17 18 [] [(17,(.bool (s.why==1)))] V fun _=>zi 1 0 (fun a6=>?_) fun a6=>?_))
 ·have c9:=a6;try simp only[BS]at c9
  have e2:s.why=1:=c9;refine bm 1 (v:=(s.why==1)) V a6 V V (aa (bn 3 0 20 22 [] [(20,(aG [(iI c.params),(iI c.regs),(sL al c.blocks.length aw)])),(22,(iI s.blk))] (Hr_ 0 0 (Hr_ 2 2 Hn_)) ad V V fun _=>zc (mj.rlp_c ex c s.blk (HS.call ad) M M a2 M hT (fun j=>a0e (e6 j) M)) ?_));rintro _ hl ⟨ci,c4,a_,k3,ax,E,rfl,c8,jw,jb⟩;replace E:=HS.back ad V E;replace hT:=hT.mono ax;replace a2:=a2.mono ax;replace U:=U.mono ax;refine za (sL ci a_.length c4) (ae 3 V (bF 1 24 33 [] [(33,(.bool ((decide (s.idx<0))||(decide ((a_.length:Int)<=s.idx)))))] (Hr_ 1 2 (bt 5 (fun _=>(ql 3 3 (i_ E V) V V)) Hn_)) E V V fun _=>zi 1 3 (fun bk=>?_) fun bk=>?_))
  ·have hq:=bk;try simp only[BS]at hq
   have ag: ¬iD c a (inE e) s:=rw_no X hv M bk;refine wT 1 [] 10 10 [] [(10,(.bool false))] V fun _=>am ⟨.inr V,_,V,false,_,(ax),(HS.forget E),V,(gx ag)⟩
  have hy:=rw_yes (s:=s) X X hv bk;have hD:=hy.b0;have ch:=hy.b1;have hE:(a_).length=(c.blocks.getD s.blk.toNat default).ins.length+1:=hy.pf.len;have hF:=hy.i0;have hG:s.idx.toNat<=(c.blocks.getD s.blk.toNat default).ins.length:=hy.i1;have nW:=e6 s.blk.toNat;have mt:=hy.pf.pt _ hy.i1;have n0:=Lst.len mt ho.1 (fun r h=>eB vF ch h);refine bF 1 34 36 [] [(36,(.bool (s.why==1)))] (Hr_ 1 2 Hn_) E V V fun _=>bm 1 (v:=(s.why==1)) V a6 V V ?_
  have g8:s.idx.toNat<(c.blocks.getD s.blk.toNat default).ins.length->((c.blocks.getD s.blk.toNat default).ins.getD s.idx.toNat default).args.length<=6:=fun h=>(bx (vF.ins _ ch _ h)).2.2
  have g4:s.idx.toNat<(c.blocks.getD s.blk.toNat default).ins.length->((((a_).getD (s.idx+1).toNat default).length:Nat):Int)<=c.regs:=fun h=>by rw[show(s.idx+1).toNat=s.idx.toNat+1 by omega];exact Lst.len (hy.pf.pt (s.idx.toNat+1) h) ho.1 (fun r h=>eB vF ch h)
  refine aF V (zp 3 (zl 3 (HS.hc E.log0 (i:=2) V) (zfm (sL ci a_.length c4) (aK (v:=(iI (a_.length:Int))) (id:= .v) (ap_lenV (α:=(List Int)) V V (SR.sv c8 E.log0)) V V (did_len V) (eE _) (wfv (v:=(iI ((a_.length:Int)-1))) (ap_sub V V (w_i64 (n:=(a_.length:Int)-1) M)) ?_)))));refine wfv (v:=(.bool (decide (s.idx<(a_.length:Int)-1)))) (lP V V V V) (zfm (.bool (decide (s.idx<(a_.length:Int)-1))) (wf_gsT (v:=(decide (s.idx<(a_.length:Int)-1))) V V (fun an=>?_) (fun an=>?_)))
  ·have c5:=an;try simp only[BS]at c5
   refine zp 4 (bu V an (zl 4 (HS.hc E.log0 (i:=2) V) (bu V an (aK (v:=(iI (s.oth.length:Int))) (id:= .v) (ap_lenV (α:=Int) V V (SR.sv U E.log0)) V V (did_len V) (eE _) (bu V an ?_)))));refine wfv (v:=(.bool ((s.oth.length:Int)==0))) (lP V V V V) (wfv (v:=(.bool ((s.oth.length:Int)==0))) (ca V an V) (zfm (.bool ((s.oth.length:Int)==0)) (wf_gsT (v:=((s.oth.length:Int)==0)) V V (fun A=>?_) (fun A=>?_))))
   ·have c6:=A;try simp only[BS]at c6
    refine zp 2 (bu V A (zl 2 (HS.hc E.log0 (i:=0) V) (bu V A (zp 2 (bu V A ?_)))));refine zl 2 (HS.hc E.log0 (i:=2) V) (bu V A (zy BlkT s.blk (SR.sv a2 E.log0) (bu V A (wfv (v:=(.pointer (some ⟨sB (sL al c.blocks.length aw),sO (sL al c.blocks.length aw)+s.blk.toNat *Rp.sz BlkT,none⟩))) (fJ V V) (bu V A ?_)))));obtain⟨i3,g5,g0⟩:=Sv.at (SR.sv a2 E.log0) (aT (x:=default) (show s.blk.toNat<c.blocks.length from by omega));obtain⟨e4,f3,rfl,hR,hS,hV,hW,dd⟩:=g5;refine zl 0 g0 (bu V A (zp 3 (bu V A (zl 3 (HS.hc E.log0 (i:=2) V) (bu V A ?_)))));refine zy VInT s.idx (SR.sv dd E.log0) (bu V A ?_);obtain⟨ja,g6,g2⟩:=Sv.at (SR.sv dd E.log0) (aT (x:=default) (show s.idx.toNat<(c.blocks.getD s.blk.toNat default).ins.length from by omega));obtain⟨e5,f4,rfl,hX,hY,h0,h1,h2,f5⟩:=g6;refine aK (v:=(aG [(iI ((c.blocks.getD s.blk.toNat default).ins.getD s.idx.toNat default).i.op),(iI ((c.blocks.getD s.blk.toNat default).ins.getD s.idx.toNat default).i.a),(iI ((c.blocks.getD s.blk.toNat default).ins.getD s.idx.toNat default).i.b),(iI ((c.blocks.getD s.blk.toNat default).ins.getD s.idx.toNat default).i.c),(iI ((c.blocks.getD s.blk.toNat default).ins.getD s.idx.toNat default).i.n),(sL e5 ((c.blocks.getD s.blk.toNat default).ins.getD s.idx.toNat default).args.length f4)])) (id:= .l (sB (sL e4 (c.blocks.getD s.blk.toNat default).ins.length f3))) (cp (i:=0) V V V g2 V V V) V V (cP V) (kb V) (bu V A (zfm (sL ci a_.length c4) (bu V A (zp 3 (bu V A ?_)))));refine zl 3 (HS.hc E.log0 (i:=2) V) (bu V A (aN (W:=[]) (aq V V V) V V V (mh.kK ex a_ s.idx (HS.call E.log0) c8 M hT M) (⟨.inl V,⟨.inl V,⟨.inl V,⟨.inr a0d,⟨.inr trivial,⟨.inr a0d,⟨.inr trivial,⟨.inr a0d,⟨.inr trivial,⟨.inr trivial,⟨.inr a0d,⟨.inr trivial,⟨.inr a0d,⟨.inr trivial,⟨.inl V,⟨.inl V,⟨.inl V,⟨.inl V,⟨.inl V,⟨.inl V,⟨.inl V,⟨.inl V,⟨.inl V,⟨.inl V,⟨.inl V,⟨.inl V,⟨.inl V,trivial⟩⟩⟩⟩⟩⟩⟩⟩⟩⟩⟩⟩⟩⟩⟩⟩⟩⟩⟩⟩⟩⟩⟩⟩⟩⟩⟩) ?_));rintro _ _ ⟨ih,kx,l2,rfl,rfl,f1,rfl⟩;refine⟨fun b hb=>absurd hb a0d,fun hf fd=>?_⟩;have b8:=HS.lg E.log0 E fd;generalize ({{hl with log:=[]} with log:=hf}:Heap)=h4 at b8⊢;refine bu V A (aN (W:=[]) (aq V V V) V V V (mh.acall_c ex ((c.blocks.getD s.blk.toNat default).ins.getD s.idx.toNat default) (a_.getD (s.idx+1).toNat default) (HS.call b8.log0) M M M M M f5 f1 hT M M) (kb V) ?_);rintro _ hm ⟨ik,ky,l3,k4,d1,Z,rfl,f2,rfl⟩;refine⟨Wr.did Z.log,fun hh fi=>?_⟩;replace Z:=HS.back b8.log0 V Z;replace Z:=HS.lg Z b8 fi;generalize ({hm with log:=hh}:Heap)=f9 at Z⊢;replace hT:=hT.mono d1;refine bu V A (zp 0 (bu V A (aK (v:=(iI s.reg)) (id:= .l b5) (cW (i:=0) V V (HS.hc Z.log0 (i:=2) V) V V) V V (cP V) (⟨.inl V,⟨.inr a0d,⟨.inr a0d,⟨.inr trivial,⟨.inr trivial,⟨.inr trivial,⟨.inr trivial,⟨.inr trivial,⟨.inr trivial,⟨.inr trivial,⟨.inr trivial,⟨.inr trivial,⟨.inr trivial,⟨.inr trivial,⟨.inr trivial,⟨.inr trivial,⟨.inr trivial,⟨.inl V,⟨.inl V,⟨.inl V,⟨.inl V,⟨.inl V,⟨.inl V,⟨.inl V,⟨.inl V,⟨.inl V,⟨.inl V,⟨.inl V,⟨.inl V,⟨.inl V,trivial⟩⟩⟩⟩⟩⟩⟩⟩⟩⟩⟩⟩⟩⟩⟩⟩⟩⟩⟩⟩⟩⟩⟩⟩⟩⟩⟩⟩⟩⟩) (bu V A (aN (W:=[]) (aq V V V) V V V (m6.fl ex (acV ((c.blocks.getD s.blk.toNat default).ins.getD s.idx.toNat default) (a_.getD (s.idx+1).toNat default)) s.reg (HS.call Z.log0) f2 M hT (by(have h9:=g8 M;have h8:=g4 M;refine a0e acV_len ?_;omega))) (kb V) ?_)))));rintro _ _ ⟨l4,rfl,rfl,rfl⟩;refine⟨fun b hb=>absurd hb a0d,fun hj f0=>?_⟩;have d4:=HS.lg Z.log0 Z f0;generalize ({{f9 with log:=[]} with log:=hj}:Heap)=h5 at d4⊢;refine wfv (v:=(.bool (bS (acV ((c.blocks.getD s.blk.toNat default).ins.getD s.idx.toNat default) (a_.getD (s.idx+1).toNat default)) s.reg))) (ca V A V) (fa (.bool (bS (acV ((c.blocks.getD s.blk.toNat default).ins.getD s.idx.toNat default) (a_.getD (s.idx+1).toNat default)) s.reg)) V V V (ew (aj 1 V (am ⟨.inr V,_,V,bS (acV ((c.blocks.getD s.blk.toNat default).ins.getD s.idx.toNat default) (a_.getD (s.idx+1).toNat default)) s.reg,_,(fT (ax) d1),(HS.forget d4),V,(ra_yes hy vF e2 nq.1 M M)⟩))))
   have c6:=A;try simp only[BS]at c6
   refine bw V A V (bw V A V (bw V A V (bw V A V (bw V A V (bw V A V ?_)))));refine bw V A V (bw V A V (bw V A V (bw V A V (bw V A V (bw V A V ?_)))));refine bw V A V (bw V A V (bw V A V (bw V A V (bw V A V (bw V A V ?_)))));refine wfv (v:=(.bool false)) (cn V A V) (fa (.bool false) V V V (ew (aj 1 V (am ⟨.inr V,_,V,false,_,(ax),(HS.forget E),V,(ra_no hy e2 (.inr X))⟩))))
  have c5:=an;try simp only[BS]at c5
  refine bw V an V (bw V an V (bw V an V (wfv (v:=(.bool false)) (cn V an V) (zfm (.bool false) (bw V V V ?_)))));refine bw V V V (bw V V V (bw V V V (bw V V V (bw V V V (bw V V V ?_)))));refine bw V V V (bw V V V (bw V V V (bw V V V (bw V V V (bw V V V ?_)))));refine bw V V V (bw V V V (bw V V V (bw V V V (bw V V V (bw V V V ?_)))));refine wfv (v:=(.bool false)) (cn V V V) (fa (.bool false) V V V (ew (aj 1 V (am ⟨.inr V,_,V,false,_,(ax),(HS.forget E),V,(ra_no hy e2 (.inl X))⟩))))
 have c9:=a6;try simp only[BS]at c9
 refine wT 1 [] 17 19 [] [(17,(.bool (s.why==2)))] V fun _=>zi 1 1 (fun bl=>?_) fun bl=>?_
 ·have c7:=bl;try simp only[BS]at c7
  have f7:s.why=2:=c7;refine aa (bn 3 0 20 22 [] [(20,(aG [(iI c.params),(iI c.regs),(sL al c.blocks.length aw)])),(22,(iI s.blk))] (Hr_ 0 0 (Hr_ 2 2 Hn_)) ad V V fun _=>zc (mj.rlp_c ex c s.blk (HS.call ad) M M a2 M hT (fun j=>a0e (e6 j) M)) ?_);rintro _ k7 ⟨dn,e3,a0,dl,a1,av,rfl,a3,kc,jq⟩;replace av:=HS.back ad V av;replace hT:=hT.mono a1;replace he:=he.mono a1;replace U:=U.mono a1;refine za (sL dn a0.length e3) (ae 3 V (bF 1 24 33 [] [(33,(.bool ((decide (s.idx<0))||(decide ((a0.length:Int)<=s.idx)))))] (Hr_ 1 2 (bt 5 (fun _=>(ql 3 3 (i_ av V) V V)) Hn_)) av V V fun _=>zi 1 3 (fun a5=>?_) fun a5=>?_))
  ·have hr:=a5;try simp only[BS]at hr
   have ag: ¬iD c a (inE e) s:=rw_no X hv M a5;refine wT 1 [] 10 10 [] [(10,(.bool false))] V fun _=>am ⟨.inr V,_,V,false,_,(a1),(HS.forget av),V,(gx ag)⟩
  have hy:=rw_yes (s:=s) X X hv a5;have hD:=hy.b0;have ch:=hy.b1;have hE:(a0).length=(c.blocks.getD s.blk.toNat default).ins.length+1:=hy.pf.len;have hF:=hy.i0;have hG:s.idx.toNat<=(c.blocks.getD s.blk.toNat default).ins.length:=hy.i1;have nW:=e6 s.blk.toNat;have mt:=hy.pf.pt _ hy.i1;have n0:=Lst.len mt ho.1 (fun r h=>eB vF ch h);refine bF 1 34 36 [] [(36,(.bool (s.why==1)))] (Hr_ 1 2 Hn_) av V V fun _=>kW 2 (v:=(s.why==1)) V a6 V V (aF V (d8 2 70 71 [] [(71,(sL a4 s.oth.length a8))] (Hr_ 1 2 Hn_) av V V fun _=>?_))
  have ea:=HS.snoc av;refine zad 3 (OS.nil:OS dl (sL none 0 0) ([]:List Int) []) ea (SR.sv U ea) V V V M (kb V) fun hn hH hI h6 co em=>?_
  have co:OS dl (sL hn s.oth.length hH) s.oth hI:=co;refine zp 0 (aK (v:=(iI s.reg)) (id:= .l b5) (cW (i:=0) V V (HS.hc em.log0 (i:=2) V) V V) V V (cP V) (⟨.inl V,⟨.inr a0d,⟨.inr trivial,⟨.inr trivial,trivial⟩⟩⟩⟩) (zld ([s.reg]:List Int) em V (RL.cs ⟨V,by omega⟩ RL.nl) V fun la l1 hJ h7 g3 et=>zad 3 co et (OS.sv g3 et (i:=4) V) V V V M (kb V) fun f6 f8 hK ib a7 g7=>fa (sL f6 (s.oth++([s.reg]:List Int)).length f8) V V V (bB 3 V ?_)));refine wT 2 [] 1 0 [13] [(13,(iI 0))] V fun _=>ah (fun(mm:Nat) f H'=> ∃(i:Nat) (F':Fz),Fz.le dl F'/\HS (Base.of H []) F' H' [(fP b1 [(iI c.params),(iI c.regs),(sL al c.blocks.length aw)]),(fP b3 [(sL a9 a.locs.length b9),(sL bb a.spi.length cc),(iI a.slots)]),(fP b5 [(iI s.reg),(iI s.why),(iI s.blk),(iI s.idx),(sL a4 s.oth.length a8)]),hK,hJ] R/\aA f [(3,(sL lx e.length mW)),(9,(pT b5 0)),(11,(sL dn a0.length e3)),(12,(sL f6 (s.oth++([s.reg]:List Int)).length f8)),(13,(iI (i:Int)))]/\mm=(s.oth++[s.reg]).length-i/\(i<=(s.oth++[s.reg]).length)/\(∀q,q<i->bS ((a0).getD s.idx.toNat default) ((s.oth++[s.reg]).getD q 0)=true/\bS e ((s.oth++[s.reg]).getD q 0)=false)) _ ⟨0,_,fR,g7,⟨V,V,V,V,V,trivial⟩,V,M,(fun _ h=>absurd h (a0t _))⟩ ?_
  rintro kz lf k8 ⟨i,k5,ar,N,d2,rfl,hi,hall⟩ g9;refine ap _ d2 (fun _=>?_);clear d2;replace hT:=hT.mono ar;replace he:=he.mono ar;replace a7:=a7.mono ar;replace a3:=a3.mono ar;replace U:=U.mono ar;have oL:(s.oth++[s.reg]).length=s.oth.length+1:=by simp
  refine aj 2 V (wT 1 [] 77 80 [] [(80,(.bool (decide ((i:Int)<((s.oth++([s.reg]:List Int)).length:Int)))))] V fun _=>zi 4 5 (fun bz=>?_) fun bz=>?_)
  ·have ds:=bz;try simp only[BS]at ds
   obtain⟨il,ez⟩:=Sv.view (SR.sv a3 N);have hM:=fL (ez s.idx.toNat);obtain⟨it,c0⟩:=Sv.view (OS.sv a7 N (i:=3) V);have lr:=fI (c0 i);refine sdr0 1 83 101 [] [(101,(.bool ((!(bS (a0.getD s.idx.toNat default) ((s.oth++([s.reg]:List Int)).getD i 0)))||bS e ((s.oth++([s.reg]:List Int)).getD i 0))))] (Hr_ 2 2 (Ha_ (Sv.ix (j:=s.idx) (SR.sv a3 N)) (Hl_ 4 (ql 22 0 (hc0 (vL (ez s.idx.toNat))) V V) (Ha_ (Sv.ix (j:=(i:Int)) (OS.sv a7 N (i:=3) V)) (Hl_ 8 (ql 3 0 (hc0 (vI (c0 i))) V V) (Hc_ 9 (m6.bQ ex (a0.getD s.idx.toNat default) ((s.oth++([s.reg]:List Int)).getD i 0) (HS.call N.log0) hM M hT M) (Ha_ (fun(g1:(!(bS (a0.getD s.idx.toNat default) ((s.oth++([s.reg]:List Int)).getD i 0)))=false)=>(Sv.ix (j:=(i:Int)) (OS.sv a7 N (i:=3) V) (by(try simp only[BS]at g1);(first|(dsimp only;omega)|omega|(have hz:=z _ (aM.1 X);omega)|(have hz:=z _ (aM.1 q_);omega))) (by(try simp only[BS]at g1);(first|(dsimp only;omega)|omega|(have hz:=z _ (aM.1 X);omega)|(have hz:=z _ (aM.1 q_);omega))))) (bt 16 (fun g1=>(ql 3 0 (hc0 (vI (c0 i) (by(try simp only[BS]at g1);(first|(dsimp only;omega)|omega|(have hz:=z _ (aM.1 X);omega)|(have hz:=z _ (aM.1 q_);omega))))) V V)) (Hc1_ 17 (fun g1=>(m6.bQ ex e ((s.oth++([s.reg]:List Int)).getD i 0) (HS.call N.log0) he (by(try simp only[BS]at g1);(first|(dsimp only;omega)|omega|(have hz:=z _ (aM.1 X);omega)|(have hz:=z _ (aM.1 q_);omega))) hT M)) Hn_))))))))) N V V V fun _=>zi 1 2 (fun b2=>?_) fun b2=>?_
   ·have ht:=b2;try simp only[BS]at ht
    have ag: ¬iD c a (inE e) s:=rp_bad hy f7 nY nq.1 M b2;refine wT 1 [] 10 10 [] [(10,(.bool false))] V fun _=>am ⟨.inr V,_,V,false,_,(fT (a1) ar),(HS.forget N),V,(gx ag)⟩
   have nZ:bS ((a0).getD s.idx.toNat default) ((s.oth++[s.reg]).getD i 0)=true/\bS e ((s.oth++[s.reg]).getD i 0)=false:=by(have h9:=b2;simpa only[a0F,a0Z] using h9)
   refine wU 1 [] 81 82 [13] [(13,(iI ((i:Int)+1)))] (vi (n:=(i:Int)+1)) V fun _=>?_
   refine g9 _ _ _ ?_ ⟨i+1,_,(ar),N,⟨V,V,V,V,V,trivial⟩,V,M,(bX hall nZ)⟩;omega
  have ds:=bz;try simp only[BS]at ds
  have n1:=rp_fin (a:=a) hy f7 M hall;refine bF 1 102 118 [10] [(10,(.bool ((bP (AscP s.oth)&&(!(bS s.oth s.reg)))&&(decide ((5:Int)<=(s.oth.length:Int))))))] (Hr_ 1 2 (Hc_ 2 (rasc_c_q ex s.oth (HS.call N) U hT M) (bt 5 (fun _=>(ql 22 4 (i_ N V) V V)) (bt 7 (fun _=>(ql 3 0 (i_ N V) V V)) (Hc1_ 8 (fun g1=>(m6.bQ ex s.oth s.reg (HS.call N) U (by(try simp only[BS]at g1);(first|(dsimp only;omega)|omega|(have hz:=z _ (aM.1 X);omega)|(have hz:=z _ (aM.1 q_);omega))) hT M)) (bt 13 (fun _=>(ql 22 4 (i_ N V) V V)) Hn_)))))) N V V fun _=>am ⟨.inr V,_,V,((bP (AscP s.oth)&&(!(bS s.oth s.reg)))&&(decide ((5:Int)<=(s.oth.length:Int)))),_,(fT (a1) ar),(HS.forget N),V,(rp_res n1 (by simp[a6,bl,a5,bz]))⟩
 have c7:=bl;try simp only[BS]at c7
 refine wT 1 [] 119 120 [] [(119,(.bool (s.why==3)))] V fun _=>zi 2 3 (fun dt=>?_) fun dt=>?_
 ·try simp only[BS]at dt
  refine bF 1 121 134 [] [(134,(.bool ((((s.oth.length:Int) !=5)||(s.blk !=0))||(s.idx !=0))))] (Hr_ 1 2 (bt 6 (fun _=>(ql 3 2 (i_ ad V) V V)) (bt 11 (fun _=>(ql 3 3 (i_ ad V) V V)) Hn_))) ad V V fun _=>zi 1 3 (fun b4=>?_) fun b4=>?_
  ·have hu:=b4;try simp only[BS]at hu
   have ag: ¬iD c a (inE e) s:=rc_no X b4;refine wT 1 [] 10 10 [] [(10,(.bool false))] V fun _=>am ⟨.inr V,_,V,false,_,fR,(HS.forget ad),V,(gx ag)⟩
  have mI:=rc_yes b4;refine wT 2 [] 1 0 [14] [(14,(iI 0))] V fun _=>ah (fun(mm:Nat) f H'=> ∃(k:Nat) (F':Fz),Fz.le F F'/\HS (Base.of H []) F' H' [(fP b1 [(iI c.params),(iI c.regs),(sL al c.blocks.length aw)]),(fP b3 [(sL a9 a.locs.length b9),(sL bb a.spi.length cc),(iI a.slots)]),(fP b5 [(iI s.reg),(iI s.why),(iI s.blk),(iI s.idx),(sL a4 s.oth.length a8)])] R/\aA f [(2,(sL ly g.length mX)),(6,(pT b3 0)),(9,(pT b5 0)),(14,(iI (k:Int)))]/\mm=s.oth.length-k/\(k<=s.oth.length)/\(∀p,p<k->colO c a s p)) _ ⟨0,_,fR,ad,⟨V,V,V,V,trivial⟩,V,M,(fun _ h=>absurd h (a0t _))⟩ ?_
  rintro k0 ll k9 ⟨k,k6,ay,T,d3,rfl,hk,hcq⟩ ha;refine ap _ d3 (fun _=>?_);clear d3;replace hT:=hT.mono ay;replace b7:=b7.mono ay;replace hg:=hg.mono ay;replace U:=U.mono ay;refine aj 2 V (bF 1 135 139 [] [(139,(.bool (decide ((k:Int)<(s.oth.length:Int)))))] (Hr_ 2 2 Hn_) T V V fun _=>zi 4 5 (fun dv=>?_) fun dv=>?_)
  ·try simp only[BS]at dv
   obtain⟨iv,e0⟩:=Sv.view (SR.sv hg T);have hQ:=fL (e0 s.reg.toNat);obtain⟨iz,c3⟩:=Sv.view (SR.sv U T);have l0:=fI (c3 k);obtain⟨i2,e1⟩:=Sv.view (SR.sv b7 T);have h3:=LocT.fx (e1 (s.oth.getD k 0).toNat);refine sdr0 1 142 167 [] [(167,(.bool ((!(bS (g.getD s.reg.toNat default) (s.oth.getD k 0)))||(!(((a.locs.getD (s.oth.getD k 0).toNat default).inS==false)&&(((a.locs.getD (s.oth.getD k 0).toNat default).idx==(k:Int))&&true))))))] (Hr_ 2 2 (Ha_ (Sv.ix (j:=s.reg) (SR.sv hg T)) (Hl_ 4 (ql 22 0 (hc0 (vL (e0 s.reg.toNat))) V V) (Hr_ 6 2 (Ha_ (Sv.ix (j:=(k:Int)) (SR.sv U T)) (Hl_ 9 (ql 3 0 (hc0 (vI (c3 k))) V V) (Hc_ 10 (m6.bQ ex (g.getD s.reg.toNat default) (s.oth.getD k 0) (HS.call T.log0) hQ M hT M) (bt 14 (fun _=>(ql 23 0 (hc0 (h_ T V)) V V)) (bt 16 (fun _=>(ql 22 4 (hc0 (i_ T V)) V V)) (Ha_ (fun(g1:(!(bS (g.getD s.reg.toNat default) (s.oth.getD k 0)))=false)=>(Sv.ix (j:=(k:Int)) (SR.sv U T) (by(try simp only[BS]at g1);(first|(dsimp only;omega)|omega|(have hz:=z _ (aM.1 X);omega)|(have hz:=z _ (aM.1 q_);omega))) (by(try simp only[BS]at g1);(first|(dsimp only;omega)|omega|(have hz:=z _ (aM.1 X);omega)|(have hz:=z _ (aM.1 q_);omega))))) (bt 19 (fun g1=>(ql 3 0 (hc0 (vI (c3 k) (by(try simp only[BS]at g1);(first|(dsimp only;omega)|omega|(have hz:=z _ (aM.1 X);omega)|(have hz:=z _ (aM.1 q_);omega))))) V V)) (Ha_ (fun(g1:(!(bS (g.getD s.reg.toNat default) (s.oth.getD k 0)))=false)=>(Sv.ix (j:=(s.oth.getD k 0)) (SR.sv b7 T) (by(try simp only[BS]at g1);(first|(dsimp only;omega)|omega|(have hz:=z _ (aM.1 X);omega)|(have hz:=z _ (aM.1 q_);omega))) (by(try simp only[BS]at g1);(first|(dsimp only;omega)|omega|(have hz:=z _ (aM.1 X);omega)|(have hz:=z _ (aM.1 q_);omega))))) (bt 21 (fun g1=>(qn 64 0 2 (hc0 (LocT.vw (e1 (s.oth.getD k 0).toNat) (by(try simp only[BS]at g1);(first|(dsimp only;omega)|omega|(have hz:=z _ (aM.1 X);omega)|(have hz:=z _ (aM.1 q_);omega))))) V V V V)) (Ho_ 24 (.o (.bool (!(((a.locs.getD (s.oth.getD k 0).toNat default).inS==false)&&(((a.locs.getD (s.oth.getD k 0).toNat default).idx==(k:Int))&&true))))) (fun(g1:(!(bS (g.getD s.reg.toNat default) (s.oth.getD k 0)))=false)=>(agNe (P:=Tryd.prog) (t:=64) (xs:=[(.bool (a.locs.getD (s.oth.getD k 0).toNat default).inS),(iI (a.locs.getD (s.oth.getD k 0).toNat default).idx)]) (ys:=[(.bool false),(iI (k:Int))]) (bs:=[((a.locs.getD (s.oth.getD k 0).toNat default).inS==false),((a.locs.getD (s.oth.getD k 0).toNat default).idx==(k:Int))]) V V V (by kernel_rfl) (by kernel_rfl) (.cons ⟨by decide,_,_,V,V,eqB V⟩ (.cons ⟨by decide,_,_,V,V,eqI V⟩ .nil)))) Hn_)))))))))))))) T V V V fun _=>zi 1 2 (fun b6=>?_) fun b6=>?_
   ·have hw:=b6;try simp only[BS]at hw
    have ag: ¬iD c a (inE e) s:=fun g=>col_bad fz M b6 ((why_3 X).1 g)
    refine wT 1 [] 10 10 [] [(10,(.bool false))] V fun _=>am ⟨.inr V,_,V,false,_,(ay),(HS.forget T),V,(gx ag)⟩
   have nX:colO c a s k:=col_good fz b6;refine wU 1 [] 140 141 [14] [(14,(iI ((k:Int)+1)))] (vi (n:=(k:Int)+1)) V fun _=>?_
   refine ha _ _ _ ?_ ⟨k+1,_,(ay),T,⟨V,V,V,V,trivial⟩,V,M,(bX hcq nX)⟩;omega
  try simp only[BS]at dv
  have nI:iD c a (inE e) s:=(why_3 X).2 ⟨mI.2.1,mI.2.2,mI.1,fun p hp=>hcq p M⟩;refine wT 1 [] 10 10 [] [(10,(.bool true))] V fun _=>am ⟨.inr V,_,V,true,_,(ay),(HS.forget T),V,(bP_y nI)⟩
 try simp only[BS]at dt
 have ag: ¬iD c a (inE e) s:=why_n M M M;refine wT 1 [] 10 10 [] [(10,(.bool false))] V fun _=>am ⟨.inr V,_,V,false,_,fR,(HS.forget ad),V,(gx ag)⟩
theorem rjustg_c{a7:Option Addr}{bk:Nat}(c:VFnT){a6:Option Addr}{bb:Nat}{ar:Option Addr}{ax:Nat}(a:AllT)(hs:HS (.of H []) F H [] R)(hj:in64 c.params)(hl:in64 c.regs)(aw:SR F (sL a7 c.blocks.length bk) c.blocks)(a_:SR F (sL ar a.locs.length ax) a.locs)(av:SR F (sL a6 a.spi.length bb) a.spi)(hh:in64 a.slots)(hT:TB 37 tabC F)(il: ∀j,(c.blocks.getD j default).ins.length<=1073741822)(hp:a.spi.length<=1073741824)(ki: ∀j,(a.spi.getD j default).oth.length<=1073741824):kKt ex 12 [(aG [(iI c.params),(iI c.regs),(sL a7 c.blocks.length bk)]),(aG [(sL ar a.locs.length ax),(sL a6 a.spi.length bb),(iI a.slots)])] H fun v H'=> ∃(o:Bool) (F':Fz),Fz.le F F'/\HS (.of H []) F' H' [] R/\v= .bool o/\o=bP (JstG c a):=by
 refine aC Tryd.func12 V V (aj 1 V (aa (aV (aO hs V V) V V ?_)));rintro _ H2 _ ⟨b1,rfl,go,_⟩;refine aV (aO go V V) V V ?_;rintro _ H4 _ ⟨b3,rfl,co,_⟩;refine za (.bool false) (ae 3 V (sj 1 11 21 [] [(21,(.bool ((!(bT c))||((a.locs.length:Int) !=c.regs))))] (Hr_ 0 0 (Hk_ 1 (jc co fun _ _ j q=>m3.eQ ex c q M M (aw.mono j) (hT.mono j) (fun j=>a0e (il j) M)) (mV 5 (fun _=>(jl co 23 0 1 V V V)) (mV 8 (fun _=>(jl co 3 1 0 V V V)) Hn_)))) co V V fun hR H5 F5 ay dt=>?_));replace hT:=hT.mono ay;replace a_:=a_.mono ay;replace av:=av.mono ay;replace aw:=aw.mono ay;refine zi 1 2 (fun ci=>?_) fun ci=>?_
 ·have c6:=ci;try simp only[BS]at c6
  have b0: ¬JstG c a:=jg_no0 ci;refine wT 1 [] 4 4 [] [(4,(.bool false))] V fun _=>am ⟨.inr V,_,V,false,_,(ay),(HS.forget dt),V,(gx b0)⟩
 have h0:=jg_yes0 ci;have hv:=h0.1;have it:=h0.2;have vF:=eU hv;have l1:=vF.regs;let d1:Fp:=(fP b1 [(iI c.params),(iI c.regs),(sL a7 c.blocks.length bk)])
 let d2:Fp:=(fP b3 [(sL ar a.locs.length ax),(sL a6 a.spi.length bb),(iI a.slots)])
 refine wT 3 [] 1 0 [5] [(5,(iI 0))] V fun _=>wT 2 [] 1 0 [6] [(6,(iI 0))] V fun _=>ah (fun(mm:Nat) f H'=> ∃(s:Nat) (r:Nat) (F':Fz),Fz.le F5 F'/\HS (Base.of H []) F' H' [d1,d2] R/\aA f [(2,(pT b1 0)),(3,(pT b3 0)),(5,(iI (s:Int))),(6,(iI (r:Int)))]/\mm=a.locs.length-r/\(r<=a.locs.length)/\(s=iT (fun q=>(cH a q).inS) r)) _ ⟨0,0,_,fR,dt,⟨V,V,V,V,trivial⟩,V,M,s_⟩ ?_
 rintro ht hM hD ⟨s,r,hw,N,Z,c4,rfl,hr,hsc⟩ dk;refine ap _ c4 (fun _=>?_);clear c4;replace hT:=hT.mono N;replace a_:=a_.mono N;replace av:=av.mono N;replace aw:=aw.mono N;have ly:=cntP_le (f:=fun q=>(cH a q).inS) r;refine aj 2 V (bF 1 22 25 [] [(25,(.bool (decide ((r:Int)<c.regs))))] (Hr_ 2 0 Hn_) Z V V fun _=>zd 4 6 (fun f5=>?_) fun f5=>?_)
 ·obtain⟨g9,c9⟩:=Sv.view (SR.sv a_ Z);have g1:=LocT.fx (c9 r);refine bF 1 28 33 [] [(33,(.bool (a.locs.getD r default).inS))] (Hr_ 1 1 (Ha_ (Sv.ix (j:=(r:Int)) (SR.sv a_ Z)) (Hl_ 5 (ql 4 0 (LocT.vw (c9 r)) V V) Hn_))) Z V V fun _=>zi 0 2 (fun a8=>?_) fun a8=>?_
  ·have f6:=a8;try simp only[BS]at f6
   have kg:(cH a r).inS=true:=a8;refine wU 2 [] 34 35 [5] [(5,(iI ((s:Int)+1)))] (vi (n:=(s:Int)+1)) V fun _=>wU 1 [] 26 27 [6] [(6,(iI ((r:Int)+1)))] (vi (n:=(r:Int)+1)) V fun _=>?_
   refine dk _ _ _ ?_ ⟨s+1,r+1,_,(N),Z,⟨V,V,V,V,trivial⟩,V,M,(cntP_y hsc X)⟩;omega
  have kg:(cH a r).inS=false:=a8;refine wU 1 [] 26 27 [6] [(6,(iI ((r:Int)+1)))] (vi (n:=(r:Int)+1)) V fun _=>?_
  refine dk _ _ _ ?_ ⟨s,r+1,_,(N),Z,⟨V,V,V,V,trivial⟩,V,M,(cntP_n hsc X)⟩;omega
 refine bF 1 36 40 [] [(40,(.bool ((s:Int) !=(a.spi.length:Int))))] (Hr_ 2 1 Hn_) Z V V fun _=>zi 1 2 (fun bl=>?_) fun bl=>?_
 ·try simp only[BS]at bl
  have b0: ¬JstG c a:=jr_no hsc M (by have h2:=bl;omega);refine wT 1 [] 4 4 [] [(4,(.bool false))] V fun _=>am ⟨.inr V,_,V,false,_,(fT (ay) N),(HS.forget Z),V,(gx b0)⟩
 try simp only[BS]at bl
 have kk:s=a.spi.length:=by have h2:=bl;omega
 let d3:Value:=(aG [(iI c.params),(iI c.regs),(sL a7 c.blocks.length bk)])
 refine wT 2 [] 1 0 [7] [(7,(sL none 0 0))] V fun _=>aa (bn 1 0 41 41 [] [(41,d3)] (Hr_ 0 0 Hn_) Z V V fun _=>zc (ni.jA ex c (HS.call Z) M M aw hT X) ?_)
 rintro _ hE ⟨b2,b6,bz,f3,ad,b5,rfl,a9,hf,he⟩;replace b5:=HS.back Z V b5;refine za (sL b2 bz.length b6) (ae 3 V ?_);have kd:=(by assumption:bT c=true->InF c bz) hv;have l0:=kd.len;refine wT 2 [] 1 0 [9] [(9,(iI 0))] V fun _=>?_
 have fd:=HS.snoc b5;refine ah (fun(mm:Nat) f H'=> ∃(e:List Int) (k:Nat) (al:Option Addr) (an:Nat) (a5:Fp) (F':Fz),Fz.le f3 F'/\HS (Base.of H []) F' H' [d1,d2,a5] R/\OS F' (sL al e.length an) e a5/\aA f [(2,(pT b1 0)),(3,(pT b3 0)),(7,(sL al e.length an)),(8,(sL b2 bz.length b6)),(9,(iI (k:Int)))]/\mm=a.spi.length-k/\(k<=a.spi.length)/\(e.length=k)/\(∀x,bS e x=true↔gv a k x)/\(∀q,q<k->spOK c a q)) _ ⟨([]:List Int),0,none,0,[],_,fR,fd,(OS.nil:OS _ (sL none 0 0) ([]:List Int) []),⟨V,V,V,V,V,trivial⟩,V,M,s_,(inE_0),(fun _ h=>absurd h (a0t _))⟩ ?_;rintro hu hQ hF ⟨e,k,al,an,a5,hz,U,a3,a4,c5,rfl,hk,hel,hea,hok⟩ f2;refine ap _ c5 (fun _=>?_);clear c5;replace hT:=(hT.mono ad).mono U;replace a_:=(a_.mono ad).mono U;replace av:=(av.mono ad).mono U;replace aw:=(aw.mono ad).mono U;replace a9:=a9.mono U;refine aj 2 V (bF 1 43 47 [] [(47,(.bool (decide ((k:Int)<(a.spi.length:Int)))))] (Hr_ 2 1 Hn_) a3 V V fun _=>zd 4 5 (fun f7=>?_) fun f7=>?_)
 ·have hm:=ki k;refine aa ?_;obtain⟨c0,dd⟩:=Sv.view (SR.sv av a3);obtain⟨g2,g3,g4,g5,dn⟩:=SpiT.fx (dd k);let d4:Value:=(aG [(iI (a.spi.getD k default).reg),(iI (a.spi.getD k default).why),(iI (a.spi.getD k default).blk),(iI (a.spi.getD k default).idx),(sL (cA (c0 k) 4) (a.spi.getD k default).oth.length (cK (c0 k) 4))])
  refine bn 5 0 50 54 [] [(54,d4)] (Hr_ 1 1 (Ha_ (Sv.ix (j:=(k:Int)) (SR.sv av a3)) (Hl_ 4 (qn 67 0 5 (SpiT.vw (dd k)) V V V V) Hn_))) a3 V V fun _=>zn a3 V fun ch hG fi=>sgo 1 6 1 0 [] [] (Hr_ 6 3 Hn_) fi V V fun hb f4 A=>ae 3 V (aa (aS (v:=(pT ch 0)) (fJ V V) V V ?_))
  refine aS (v:=(iI (a.spi.getD k default).reg)) (cW (i:=0) V V (HS.hc A (i:=3) V) V V) V V (aS (v:=(.bool (decide ((a.spi.getD k default).reg<0)))) (lP V V V V) V V (zm (.bool (decide ((a.spi.getD k default).reg<0))) (wo_gsF (v:=(decide ((a.spi.getD k default).reg<0))) V V (fun z=>?_) (fun z=>?_))))
  ·have b7:=z;try simp only[BS]at b7
   refine aS (v:=(pT ch 0)) (fJ V V) V V (cX V z (aS (v:=(iI (a.spi.getD k default).reg)) (cW (i:=0) V V (HS.hc A (i:=3) V) V V) V V (cX V z (aS (v:=(pT b1 1)) (fJ V V) V V (cX V z ?_)))));refine aS (v:=(iI c.regs)) (cW (i:=1) V V (g_ A V) V V) V V (cX V z (aS (v:=(.bool (decide (c.regs<=(a.spi.getD k default).reg)))) (lP V V V V) V V (aS (v:=(.bool (decide (c.regs<=(a.spi.getD k default).reg)))) (cn V z V) V V (zm (.bool (decide (c.regs<=(a.spi.getD k default).reg))) (wo_gsF (v:=(decide (c.regs<=(a.spi.getD k default).reg))) V V (fun a0=>?_) (fun a0=>?_))))))
   ·have b8:=a0;try simp only[BS]at b8
    refine zm (sL al e.length an) (cX V a0 (aS (v:=(pT ch 0)) (fJ V V) V V (cX V a0 (aS (v:=(iI (a.spi.getD k default).reg)) (cW (i:=0) V V (HS.hc A (i:=3) V) V V) V V (cX V a0 ?_)))));obtain⟨hA,em,f0,e4,hn⟩:=OS.frz a4 A (i:=2) V;refine zc (m6.fl ex e (a.spi.getD k default).reg (HS.call f0) e4 M (hT.mono em) M) ?_;rintro _ f4 ⟨hX,rfl,rfl,rfl⟩;refine aS (v:=(.bool (bS e (a.spi.getD k default).reg))) (cn V a0 V) V V (zm (.bool (bS e (a.spi.getD k default).reg)) (wo_gsF (v:=(bS e (a.spi.getD k default).reg)) V V (fun E=>?_) (fun E=>?_)))
    ·have b9:=E;try simp only[BS]at b9
     refine aS (v:=(pT b3 0)) (fJ V V) V V (cX V E (aS (v:=(sL ar a.locs.length ax)) (cW (i:=0) V V (h_ A V) V V) V V (cX V E (aS (v:=(pT ch 0)) (fJ V V) V V (cX V E ?_)))));refine aS (v:=(iI (a.spi.getD k default).reg)) (cW (i:=0) V V (HS.hc A (i:=3) V) V V) V V (cX V E (aS (v:=(.pointer (some ⟨sB (sL ar a.locs.length ax),sO (sL ar a.locs.length ax)+(a.spi.getD k default).reg.toNat *Rp.sz LocT,none⟩))) (fH (α:=LocT) (j:=(a.spi.getD k default).reg) V V V V (SR.sv a_ A) M M) V V (cX V E (aS (v:=(.pointer (some ⟨sB (sL ar a.locs.length ax),sO (sL ar a.locs.length ax)+(a.spi.getD k default).reg.toNat *Rp.sz LocT,none⟩))) (fJ V V) V V (cX V E ?_)))));obtain⟨ha,e5,ez⟩:=Sv.at (SR.sv a_ A) (aT (x:=default) (show(a.spi.getD k default).reg.toNat<a.locs.length from by omega));obtain⟨rfl,g6⟩:=e5;refine aS (v:=(.bool (a.locs.getD (a.spi.getD k default).reg.toNat default).inS)) (cW (i:=0) V V ez V V) V V (cX V E (aS (v:=(.bool (!(a.locs.getD (a.spi.getD k default).reg.toNat default).inS))) (ap_not V) V V (aS (v:=(.bool (!(a.locs.getD (a.spi.getD k default).reg.toNat default).inS))) (cn V E V) V V (zm (.bool (!(a.locs.getD (a.spi.getD k default).reg.toNat default).inS)) (wo_gsF (v:=(!(a.locs.getD (a.spi.getD k default).reg.toNat default).inS)) V V (fun T=>?_) (fun T=>?_))))))
     ·have cc:=T;try simp only[BS]at cc
      refine aS (v:=d3) (cp (i:=0) V V V (g_ A V) V V V) V V (cX V T (aS (v:=(aG [(sL ar a.locs.length ax),(sL a6 a.spi.length bb),(iI a.slots)])) (cp (i:=0) V V V (h_ A V) V V V) V V (cX V T (zm (sL b2 bz.length b6) (cX V T ?_)))));refine zm (sL al e.length an) (cX V T (aS (v:=d4) (cp (i:=0) V V V (HS.hc A (i:=3) V) V V V) V V (cX V T ?_)));obtain⟨hB,a1,c7,e6,e3⟩:=OS.frz a4 A (i:=2) V;refine zc (rwhy_c ex c a bz e (a.spi.getD k default) (HS.call c7) M M (aw.mono a1) (a_.mono a1) (av.mono a1) M (a9.mono a1) e6 M M M M (dn.mono a1) (hT.mono a1) M M M M M M M M) ?_;rintro _ hH ⟨hV,hC,et,a2,rfl,rfl⟩;replace a2:=HS.back c7 V a2;replace a2:=HS.thaw A (i:=2) V a1 e3 et a2;refine cX V T (aS (v:=(.bool (!(bP (iD c a (inE e) (a.spi.getD k default)))))) (ap_not V) V V (aS (v:=(.bool (!(bP (iD c a (inE e) (a.spi.getD k default)))))) (cn V T V) V V (eN (aj 1 V (zi 1 1 (fun b4=>?_) fun b4=>?_)))))
      ·have f8:=b4;try simp only[BS]at f8
       have b0: ¬JstG c a:=fun g=>by(have h9:=(g.spi k M).2.2.2;rw[←inE_e hea]at h9;have h8:=b4;rw[a0B]at h8;have h7:=iA.2 h9;unfold spN at h7;rw[h7]at h8;cases h8)
       refine wT 1 [] 4 4 [] [(4,(.bool false))] V fun _=>am ⟨.inr V,_,V,false,_,(fT (fT (fT (ay) N) ad) U),(HS.forget a2),V,(gx b0)⟩
      have e2:spOK c a k:=jr_ok (by unfold spN;omega) X X X hea;refine aa (bn 3 0 90 92 [] [(90,(sL al e.length an)),(92,(iI (a.spi.getD k default).reg))] (Hr_ 2 3 Hn_) a2 V V fun _=>zlo ([(a.spi.getD k default).reg]:List Int) a2 V (RL.cs ⟨V,by omega⟩ RL.nl) V fun hK hS hW hI e0 c8=>zao 2 a4 c8 (OS.sv e0 c8 (i:=4) V) V V V M fun ds dv g0 hJ e1 f1=>za (sL ds (e++([(a.spi.getD k default).reg]:List Int)).length dv) (ae 2 V ?_));refine wU 1 [] 48 49 [9] [(9,(iI ((k:Int)+1)))] (vi (n:=(k:Int)+1)) V fun _=>?_
      refine f2 _ _ _ ?_ ⟨e++([(a.spi.getD k default).reg]:List Int),k+1,ds,dv,g0,_,(U),(HS.sub f1 (a02 _ _)),e1,⟨V,V,V,V,V,trivial⟩,V,M,(by rw[a04,a0x,hel]),(inE_s hea),(bX hok e2)⟩;omega
     have cc:=T;try simp only[BS]at cc
     refine aP V T V (aP V T V (aP V T V (aP V T V (aP V T V (aP V T V ?_)))));refine aS (v:=(.bool true)) (ca V T V) V V (eN (aj 1 V (bm 1 (v:=true) V V V V (wT 1 [] 4 4 [] [(4,(.bool false))] V fun _=>am ⟨.inr V,_,V,false,_,(fT (fT (fT (ay) N) ad) U),(HS.forget A),V,(gx (fun g=>by(have h9:(a.locs.getD (a.spi.getD k default).reg.toNat default).inS=true:=(g.spi k M).2.2.1;simp_all)))⟩))))
    have b9:=E;try simp only[BS]at b9
    refine aP V E V (aP V E V (aP V E V (aP V E V (aP V E V (aP V E V ?_)))));refine aP V E V (aS (v:=(.bool true)) (ca V E V) V V (zm (.bool true) (aP V V V (aP V V V (aP V V V ?_)))));refine aP V V V (aP V V V (aP V V V (aP V V V (aS (v:=(.bool true)) (ca V V V) V V (eN ?_)))));refine aj 1 V (bm 1 (v:=true) V V V V (wT 1 [] 4 4 [] [(4,(.bool false))] V fun _=>am ⟨.inr V,_,V,false,_,(fT (fT (fT (ay) N) ad) U),(HS.forget A),V,(gx (fun g=>(g.spi k M).2.1 ((hea _).1 X)))⟩))
   have b8:=a0;try simp only[BS]at b8
   refine aP V a0 V (aP V a0 V (aP V a0 V (aS (v:=(.bool true)) (ca V a0 V) V V (zm (.bool true) (aP V V V ?_)))));refine aP V V V (aP V V V (aP V V V (aP V V V (aP V V V (aP V V V ?_)))));refine aP V V V (aS (v:=(.bool true)) (ca V V V) V V (zm (.bool true) (aP V V V (aP V V V (aP V V V ?_)))));refine aP V V V (aP V V V (aP V V V (aP V V V (aS (v:=(.bool true)) (ca V V V) V V (eN ?_)))));refine aj 1 V (bm 1 (v:=true) V V V V (wT 1 [] 4 4 [] [(4,(.bool false))] V fun _=>am ⟨.inr V,_,V,false,_,(fT (fT (fT (ay) N) ad) U),(HS.forget A),V,(gx (fun g=>by(have h9:0<=(a.spi.getD k default).reg/\(a.spi.getD k default).reg<c.regs:=(g.spi k M).1;omega)))⟩))
  have b7:=z;try simp only[BS]at b7
  refine aP V z V (aP V z V (aP V z V (aP V z V (aS (v:=(.bool true)) (ca V z V) V V (zm (.bool true) ?_)))));refine aP V V V (aP V V V (aP V V V (aP V V V (aS (v:=(.bool true)) (ca V V V) V V (zm (.bool true) ?_)))));refine aP V V V (aP V V V (aP V V V (aP V V V (aP V V V (aP V V V ?_)))));refine aP V V V (aP V V V (aS (v:=(.bool true)) (ca V V V) V V (zm (.bool true) (aP V V V (aP V V V ?_)))));refine aP V V V (aP V V V (aP V V V (aP V V V (aP V V V (aS (v:=(.bool true)) (ca V V V) V V ?_)))));refine eN (aj 1 V (bm 1 (v:=true) V V V V (wT 1 [] 4 4 [] [(4,(.bool false))] V fun _=>am ⟨.inr V,_,V,false,_,(fT (fT (fT (ay) N) ad) U),(HS.forget A),V,(gx (fun g=>by(have h9:0<=(a.spi.getD k default).reg/\(a.spi.getD k default).reg<c.regs:=(g.spi k M).1;omega)))⟩)))
 have ik:JstG c a:=jr_yes hsc M kk hv it (fun q hq=>hok q M);refine wT 1 [] 4 4 [] [(4,(.bool true))] V fun _=>am ⟨.inr V,_,V,true,_,(fT (fT (fT (ay) N) ad) U),(HS.forget a3),V,(bP_y ik)⟩
end Go.Proofs.YtgdggmlghemecaaDoor.ns
