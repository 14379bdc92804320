/-
Symbolic runs of the code that the law reaches, part 4. No condition but bounds on lengths.
-/
import Derived.Test.YtgdggmlghemecaaGreatDoorZEV2
noncomputable section
namespace Go.Proofs.YtgdggmlghemecaaGreatDoor
open Go.R
open Inhabited renaming default→v_
set_option maxRecDepth 10000
set_option maxHeartbeats 16000000
set_option linter.unusedVariables false
set_option linter.unusedSimpArgs false
open m1 m2 m3 m4 m5 m6 m7 m8 ma ml mb mc md mf mg mh mi mj na nb nc ni nv nr nw xa ej ea eb ed ec ef eg eh ei
namespace ek
open Go.R m1 m2 m3 m4 m5 m6 ma ml mb mc md mf mg mh mi mj na nb nc ni nv m7 xa ej ea eb eg
def LocK(x:LocT):Prop:=(x.inS=true->0<=x.x/\x.x<3000)/\(x.inS=false->0<=x.x/\x.x<5)
abbrev LocsK(ll:List LocT):Prop:= ∀r:Int,0<=r->r<(ll.length:Int)->LocK (atV ll r)
theorem loc_k{c a}(s:SndP c a)(v:VF c):LocsK a.l:=fun r h0 E=>by have h:=s.loc r.toNat M;have N:=v.m;have T:=s.hi;have U:=s.lo;exact⟨fun e=>by have:=h.1 e;have A:(dV a r.toNat).x=(atV a.l r).x:=rfl;omega,fun e=>by have:=h.2 e;have A:(dV a r.toNat).x=(atV a.l r).x:=rfl;omega⟩
theorem opr_k{x}(h:LocK x){s:Int}(hs:5<=s/\s<=7):0<=eX x.inS x.x s/\eX x.inS x.x s<=7:=by
 unfold eX;split
 ·omega
 have:=h.2 (by simpa using ‹¬x.inS=true›);omega
theorem mkI{o a b c n:Int}(ho:1<=o/\o<=37)(A:o≠6)(U:0<=a/\a<=7)(Z:0<=b/\b<8)(hc:0<=c/\c<8)(E: ¬fA (aI o).f->a=0)(N: ¬fB (aI o).f->b=0)(T: ¬(aI o).f=4->c=0)(hn:o≠14->loN o<=n/\n<=hiN o):VldI ⟨o,a,b,c,n⟩:=⟨ho,U,fun h=>absurd h A,Z,hc,E,N,T,hn⟩
theorem v36{t n:Int}(E:0<=t/\t<=7)(A:0<=n/\n<3000):VldI ⟨36,t,0,0,n⟩:=mkI e_ e_ E e_ e_ (fun h=>absurd e_ h) (fun _=>rfl) (fun _=>rfl) (fun _=>⟨A.1,by show n<=2999;omega⟩)
theorem v37{t n:Int}(E:0<=t/\t<=7)(A:0<=n/\n<3000):VldI ⟨37,t,0,0,n⟩:=mkI e_ e_ E e_ e_ (fun h=>absurd e_ h) (fun _=>rfl) (fun _=>rfl) (fun _=>⟨A.1,by show n<=2999;omega⟩)
theorem v10{t n:Int}(E:0<=t/\t<=7)(A:0<=n/\n<8):VldI ⟨10,t,n,0,0⟩:=mkI e_ e_ E A e_ (fun h=>absurd e_ h) (fun h=>absurd e_ h) (fun _=>rfl) (fun _=>by decide)
theorem v6{t n:Int}(A:0<=t/\t<=6)(E:0<=n/\n<8):VldI ⟨6,t,0,0,n⟩:=⟨(by decide:(1:Int)<=6/\(6:Int)<=37),⟨A.1,by dsimp only;omega⟩,fun _=>A.2,(by decide:(0:Int)<=0/\(0:Int)<8),(by decide:(0:Int)<=0/\(0:Int)<8),fun h=>absurd (by decide:fA (aI 6).f) h,fun _=>rfl,fun _=>rfl,fun _=>⟨E.1,by show n<=7;omega⟩⟩
theorem v5{n:Int}(A: -4194304<=n/\n<=4194303):VldI ⟨5,0,0,0,n⟩:=mkI e_ e_ e_ e_ e_ (fun _=>rfl) (fun _=>rfl) (fun _=>rfl) (fun _=>⟨by show-33554432<=n;omega,by show n<=33554431;omega⟩)
theorem v7{t n:Int}(E:0<=t/\t<=7)(A: -4194304<=n/\n<=4194303):VldI ⟨7,t,0,0,n⟩:=mkI e_ e_ E e_ e_ (fun h=>absurd e_ h) (fun _=>rfl) (fun _=>rfl) (fun _=>A)
theorem v8{t n:Int}(E:0<=t/\t<=7)(A: -4194304<=n/\n<=4194303):VldI ⟨8,t,0,0,n⟩:=mkI e_ e_ E e_ e_ (fun h=>absurd e_ h) (fun _=>rfl) (fun _=>rfl) (fun _=>A)
theorem v2:VldI ⟨2,0,0,0,0⟩:=mkI e_ e_ e_ e_ e_ (fun _=>rfl) (fun _=>rfl) (fun _=>rfl) (fun _=>by decide)
theorem v4{n:Int}(A:1<=n/\n<33554432):VldI ⟨4,0,0,0,n⟩:=mkI e_ e_ e_ e_ e_ (fun _=>rfl) (fun _=>rfl) (fun _=>rfl) (fun _=>⟨A.1,by show n<=33554431;omega⟩)
theorem fet_v{t:Int}{x}(A:0<=t/\t<=7)(h:LocK x): ∀i∈eQ t x.inS x.x,VldI i:=fun i hi=>by
 unfold eQ at hi;split at hi
 ·rw[a0b]at hi;subst hi;exact v36 A (h.1 ‹_›)
 split at hi
 ·cases hi
 rw[a0b]at hi;subst hi;have:=h.2 (by simpa using ‹¬x.inS=true›);exact v10 A M
theorem sav_v{x}(h:LocK x): ∀i∈savV x.inS x.x,VldI i:=fun i hi=>by
 unfold savV at hi;split at hi
 ·rw[a0b]at hi;subst hi;exact v37 e_ (h.1 ‹_›)
 split at hi
 ·cases hi
 rw[a0b]at hi;subst hi;have:=h.2 (by simpa using ‹¬x.inS=true›);exact v10 M e_
theorem fetS_v{x}(h:LocK x): ∀i∈fetS x,VldI i:=fun i hi=>by
 unfold fetS at hi;split at hi
 ·rw[a0b]at hi;subst hi;exact v36 e_ (h.1 ‹_›)
 cases hi
theorem call_v{A}(E:LocsK A){a}(N: ∀k,k<a.length->0<=a.getD k 0/\a.getD k 0<(A.length:Int))(T:a.length<=6): ∀n,n<=a.length->∀i∈jX A a n,VldI i
 |0,_,i,hi=>by cases hi
 |n+1,hn,i,hi=>by
  unfold jX at hi;rcases a09.1 hi with hi|hi
  ·exact call_v E N T n M i hi
  have:=N n M;exact fet_v M (E _ this.1 this.2) i hi
theorem tab_a: ∀k:Fin 37,(¬fA (aI ((k.val:Int)+1)).f->(aI ((k.val:Int)+1)).ra=false/\(aI ((k.val:Int)+1)).wa=false)/\(¬fB (aI ((k.val:Int)+1)).f->(aI ((k.val:Int)+1)).rb=false):=by decide
theorem oA_k{f i A}(h:f.ra=true\/f.wa=true->LocK (atV A i.a)):0<=oA f i A/\oA f i A<=7:=by
 unfold oA;split
 ·exact opr_k (h ‹_›) e_
 decide
theorem oB_k{f i A}(h:f.rb=true->LocK (atV A i.b)):0<=oB f i A/\oB f i A<8:=by
 unfold oB;split
 ·have:=opr_k (h ‹_›) (s:=6) e_;omega
 decide
theorem oC_k{f i A}(h:f.f=4->LocK (atV A i.c)):0<=oC f i A/\oC f i A<8:=by
 unfold oC;split
 ·have:=opr_k (h ‹_›) (s:=7) e_;omega
 decide
theorem main_v{p:Int}{i ll}(ag:alV i.op=true)(h6:i.op≠6)(hi:gO p i.op i.n=true)(hp:p<=6)(hA:(aD i.op).ra=true\/(aD i.op).wa=true->LocK (atV ll i.a))(hB:(aD i.op).rb=true->LocK (atV ll i.b))(hC:(aD i.op).f=4->LocK (atV ll i.c)):
  VldI ⟨opV i,oA (aD i.op) i ll,oB (aD i.op) i ll,oC (aD i.op) i ll,oN (aD i.op) i⟩:=by
 have ag:=of_decide_eq_true ag
 have ha:=oA_k hA
 have hb:=oB_k hB
 have hc:=oC_k hC
 unfold gO at hi
 by_cases A:i.op=38
 ·have E:opV i=36:=by unfold opV;rw[if_pos A]
  have ef:aD i.op=⟨⟨[]⟩,5,false,true,false,false,0⟩:=by unfold aD;rw[if_pos A]
  have eb:oB (aD i.op) i ll=0:=by rw[ef];rfl
  have ec:oC (aD i.op) i ll=0:=by rw[ef];rfl
  have en:oN (aD i.op) i=i.n:=by rw[ef];rfl
  rw[A]at hi;have hi:=of_decide_eq_true hi;rw[E,eb,ec,en];exact v36 ha M
 have ef:aD i.op=aI i.op:=by unfold aD;rw[if_neg A]
 by_cases N:i.op=13/\(i.n< -4194304\/4194304<=i.n)
 ·have E:opV i=14:=by unfold opV;rw[if_neg A,if_pos N]
  have T:=N.1;have eb:oB (aD i.op) i ll=0:=by rw[ef,T];rfl
  have ec:oC (aD i.op) i ll=0:=by rw[ef,T];rfl
  rw[E,eb,ec];exact mkI e_ e_ ha e_ e_ (fun h=>absurd e_ h) (fun _=>rfl) (fun _=>rfl) (fun h=>absurd V h)
 have E:opV i=i.op:=by unfold opV;rw[if_neg A,if_neg N]
 have ho:1<=i.op/\i.op<=37:=M
 obtain⟨k,hk⟩:=ex37 ho
 obtain⟨Z,t2⟩:=tab_a k
 rw[←hk]at Z t2
 rw[E]
 refine⟨ho,ha,fun h=>absurd h h6,hb,hc,fun h=>?_,fun h=>?_,fun h=>?_,fun _=>?_⟩
 ·have:=Z h;dsimp only;unfold oA;rw[ef,this.1,this.2];rfl
 ·have:=t2 h;dsimp only;unfold oB;rw[ef,this];rfl
 ·dsimp only at h⊢;unfold oC;rw[ef,if_neg h]
 dsimp only
 obtain⟨a_,_⟩:=nb_at k
 rw[←hk]at a_
 unfold oN
 rw[ef]
 split
 ·rename_i hf;have an:i.op=13\/i.op=33\/i.op=34\/i.op=35:=by
   have U: ∀k:Fin 37,alV ((k.val:Int)+1)=true->(aI ((k.val:Int)+1)).f=5\/(aI ((k.val:Int)+1)).f=7->((k.val:Int)+1=6\/(k.val:Int)+1=13\/(k.val:Int)+1=33\/(k.val:Int)+1=34\/(k.val:Int)+1=35):=by decide
   have:=U k (by rw[←hk];exact decide_eq_true ag) (by rw[←hk];exact hf);omega
  rcases an with e|e|e|e
  ·rw[e];refine⟨?_,?_⟩
   ·show-4194304<=i.n;omega
   show i.n<=4194303;omega
  ·rw[e]at hi⊢;have hi:=of_decide_eq_true hi;exact⟨hi.1,by show i.n<=4194303;omega⟩
  ·rw[e]at hi⊢;have hi:=of_decide_eq_true hi;exact⟨hi.1,by show i.n<=3;omega⟩
  rw[e]at hi⊢;have hi:=of_decide_eq_true hi;exact⟨hi.1,by show i.n<=3;omega⟩
 rename_i hf
 have U: ∀k:Fin 37,alV ((k.val:Int)+1)=true->¬((aI ((k.val:Int)+1)).f=5\/(aI ((k.val:Int)+1)).f=7)->¬fN (aI ((k.val:Int)+1)).f:=by decide
 have:=a_ (by rw[hk];exact U k (by rw[←hk];exact decide_eq_true ag) (by rw[←hk];exact hf))
 omega
theorem one_v{q} [Decidable q]{x}(h:q->VldI x): ∀i∈(if q then [x] else []),VldI i:=fun i hi=>by
 split at hi
 ·rw[a0b]at hi;subst hi;exact h ‹_›
 cases hi
theorem oth_v{p:Int}{i N}(aa:alV i.op=true)(A:i.op≠6)(hi:gO p i.op i.n=true)(hp:p<=6)(T:(aD i.op).ra=true\/(aD i.op).wa=true->LocK (atV N i.a))(U:(aD i.op).rb=true->LocK (atV N i.b))(Z:(aD i.op).f=4->LocK (atV N i.c)): ∀x∈jf (aD i.op) i N,VldI x:=fun x E=>by
 unfold jf at E;rw[a09,a09,a09,a09]at E;rcases E with(((E|E)|E)|E)|E
 ·exact one_v (fun h=>v36 e_ ((T (.inl h.1)).1 h.2)) x E
 ·exact one_v (fun h=>v36 e_ ((U h.1).1 h.2)) x E
 ·exact one_v (fun h=>v36 e_ ((Z h.1).1 h.2)) x E
 ·rw[a0b]at E;subst E;exact main_v aa A hi hp T U Z
 exact one_v (fun h=>v37 e_ ((T (.inr h.1)).1 h.2)) x E
theorem exp_v{p g:Int}{v ll}(hv:eV p g v=true)(hp:p<=6)(Z:LocsK ll): ∀i∈lY v ll,VldI i:=fun i hi=>by
 unfold eV at hv;simp only[a0a,decide_eq_true_eq]at hv;obtain⟨⟨⟨⟨⟨⟨⟨ad,T⟩,hl⟩,av⟩,ha⟩,hb⟩,hc⟩,U⟩:=hv;unfold lY at hi;split at hi
 ·rename_i hr;have rf:=rng_of ad hr.2;have hA:(aD v.i.op).ra=true\/(aD v.i.op).wa=true->LocK (atV ll v.i.a):=fun h=>by have:=rf.a (rng_va h);exact Z _ this.1 this.2
  have hB:(aD v.i.op).rb=true->LocK (atV ll v.i.b):=fun h=>by have:=rf.b (by rw[←vrb];exact h);exact Z _ this.1 this.2
  have hC:(aD v.i.op).f=4->LocK (atV ll v.i.c):=fun h=>by have:=rf.c ((vf4 ad).1 h);exact Z _ this.1 this.2
  split at hi
  ·rename_i E;have N:=rf.a (.inr (.inr (.inl E)));unfold gO at U;rw[E]at U;have U:=of_decide_eq_true U;rw[a09,a09]at hi;rcases hi with(hi|hi)|hi
   ·exact call_v Z (fun k hk=>rf.g E k hk) hl _ (a0d _) i hi
   ·rw[a0b]at hi;subst hi;exact v6 M U
   exact sav_v (Z _ N.1 N.2) i hi
  rename_i E;split at hi
  ·rename_i A;unfold movV at hi;split at hi
   ·cases hi
   split at hi
   ·rename_i h;have ha:=rf.a (.inr (.inl (by rw[A];rfl)));have hb:=rf.b (by rw[A];rfl);rw[a0b]at hi;subst hi;have:=(Z _ ha.1 ha.2).2 h.2;exact v36 M ((Z _ hb.1 hb.2).1 h.1)
   split at hi
   ·rename_i h;have ha:=rf.a (.inr (.inl (by rw[A];rfl)));have hb:=rf.b (by rw[A];rfl);rw[a0b]at hi;subst hi;have:=(Z _ hb.1 hb.2).2 h.2;exact v37 M ((Z _ ha.1 ha.2).1 h.1)
   exact oth_v ad E U hp hA hB hC i hi
  exact oth_v ad E U hp hA hB hC i hi
 cases hi
theorem iC: ∀(l:List InsT) (s:EmS),s.sz<=(eW s l).sz
 | [],_=>a1G _
 |i::l,s=>by have A:=iC l (put1 s i);have E:=jA i;have N:(put1 s i).sz=s.sz+wdI i:=rfl;rw[gC];omega
theorem sz_jmp(s:EmS)(i:InsT)(b:Int):s.sz<=(mF s i b).sz:=iC [i] ⟨s.l,s.pl,s.sz,s.js++[⟨(s.l.length:Int),b⟩]⟩
theorem sz_trm(s:EmS)(b:BlkT)(A:List LocT)(E:Int):s.sz<=(fu s b A E).sz:=by
 unfold fu;split
 ·split
  ·exact a1G _
  exact sz_jmp _ _ _
 split
 ·unfold lZ;split
  ·exact a1J (iC _ _) (sz_jmp _ _ _)
  split
  ·exact a1J (iC _ _) (sz_jmp _ _ _)
  exact a1J (a1J (iC _ _) (sz_jmp _ _ _)) (sz_jmp _ _ _)
 split
 ·exact a1J (iC _ _) (iC _ _)
 exact iC _ _
theorem sz_ins(A:List LocT): ∀(l:List VInT) (s:EmS),s.sz<=(lD A s l).sz
 | [],_=>a1G _
 |v::l,s=>a1J (iC _ _) (sz_ins A l (eW s (lY v A)))
structure VOK(s:EmS):Prop where
 vld: ∀i∈s.l,VldI i
 jo: ∀j∈s.js,0<=j.at_/\j.at_.toNat<s.l.length/\((s.l.getD j.at_.toNat v_).op=5\/(s.l.getD j.at_.toNat v_).op=7\/(s.l.getD j.at_.toNat v_).op=8)
 pb: ∀x∈s.pl,0<=x/\x<=s.sz
 z:0<=s.sz
theorem VOK.p1{s}(h:VOK s){i}(hi:VldI i):VOK (put1 s i):=by
 have Z:=jA i;have hz:=h.z;refine⟨fun x T=>?_,fun j U=>?_,fun x T=>?_,by show 0<=s.sz+wdI i;omega⟩
 ·rcases a09.1 T with T|T
  ·exact h.vld x T
  rw[a0b]at T;subst T;exact hi
 ·obtain⟨A,E,N⟩:=h.jo j U;have e:(s.l++[i]).getD j.at_.toNat v_=s.l.getD j.at_.toNat v_:=by rw[a03,a0Q E,a03]
  refine⟨A,by show _<(s.l++[i]).length;rw[a02];omega,?_⟩;show((s.l++[i]).getD j.at_.toNat v_).op=5\/((s.l++[i]).getD j.at_.toNat v_).op=7\/((s.l++[i]).getD j.at_.toNat v_).op=8;rw[e];exact N
 show 0<=x/\x<=s.sz+wdI i;rcases a09.1 T with T|T
 ·have:=h.pb x T;omega
 rw[a0b]at T;omega
theorem VOK.pt: ∀{l:List InsT} {s:EmS},VOK s->(∀i∈l,VldI i)->VOK (eW s l)
 | [],_,h,_=>h
 |i::l,_,h,hl=>by
  have A:=VOK.pt (l:=l) (h.p1 (hl i (a0q ..))) fun j E=>hl j (a0i _ E)
  exact A
theorem VOK.jm{s}(h:VOK s){i}(hi:VldI i)(N:i.op=5\/i.op=7\/i.op=8)(b:Int):VOK (mF s i b):=by
 have A:=h.p1 hi;refine⟨A.vld,fun j E=>?_,A.pb,A.z⟩;rcases a09.1 (show j∈s.js++[_] from E) with E|E
 ·exact A.jo j E
 rw[a0b]at E;subst E;refine⟨Int.natCast_nonneg _,by show s.l.length<(s.l++[i]).length;rw[a02];exact a1u _,?_⟩;show((s.l++[i]).getD s.l.length v_).op=5\/((s.l++[i]).getD s.l.length v_).op=7\/((s.l++[i]).getD s.l.length v_).op=8;rw[nZ,if_pos rfl];exact N
theorem VOK.tr{s}(h:VOK s){b}{nb g:Int}{A}(hb:vendV nb g b=true)(hl:(A.length:Int)=g)(Z:LocsK A)(nx:Int):VOK (fu s b A nx):=by
 have hv:=bY.1 hb;have U:b.f=2\/b.f=3->LocK (atV A b.r):=fun e=>Z _ M M
 unfold fu;split
 ·split
  ·exact h
  exact h.jm (v5 e_) (.inl V) _
 split
 ·have T:=U M;have E:=opr_k T (s:=5) e_;have N:=h.pt (fetS_v T);unfold lZ;split
  ·exact N.jm (v8 E e_) (.inr (.inr V)) _
  split
  ·exact N.jm (v7 E e_) (.inr (.inl V)) _
  exact(N.jm (v8 E e_) (.inr (.inr V)) _).jm (v5 e_) (.inl V) _
 split
 ·exact(h.pt (fet_v e_ (U M))).pt fun i hi=>by rw[a0b]at hi;subst hi;exact v2
 exact h.pt fun i hi=>by rw[a0b]at hi;subst hi;exact v4 M
theorem VOK.v{p g:Int}{T}(N:p<=6)(E:LocsK T): ∀{l:List VInT} {s:EmS},VOK s->(∀v∈l,eV p g v=true)->VOK (lD T s l)
 | [],_,h,_=>h
 |v::l,_,h,hl=>by
  have A:=VOK.v (l:=l) N E (h.pt (exp_v (hl v (a0q ..)) N E)) fun w U=>hl w (a0i _ U)
  exact A
theorem VOK.par{s}(h:VOK s): ∀n,n<=6->VOK (parE s n)
 |0,_=>h
 |n+1,hn=>(VOK.par h n M).pt fun i hi=>by rw[a0b]at hi;subst hi;exact v37 M M
theorem VOK.blk{p g nb:Int}{U}(hp:p<=6)(hl:(U.length:Int)=g)(hL:LocsK U): ∀{bs:List BlkT} {k:Int} {s:EmS} {st:List Int},VOK s->(∀x∈st,0<=x/\x<=s.sz)->(∀b∈bs,jZ p g nb b=true)->VOK (j3 U bs k (s,st)).1/\∀x∈(j3 U bs k (s,st)).2,0<=x/\x<=(j3 U bs k (s,st)).1.sz
 | [],_,_,_,h,E,_=>⟨h,E⟩
 |b::bs,k,s,st,h,E,hb=>by
  have A:=hb b (a0q ..);unfold jZ at A;rw[a0a,a0t]at A;have N:=(h.v hp hL A.1).tr A.2 hl hL (k+1);have hm:s.sz<=(fu (lD U s b.v) b U (k+1)).sz:=a1J (sz_ins U b.v s) (sz_trm _ _ _ _);have hz:=h.z;have T:=VOK.blk (bs:=bs) (k:=k+1) (st:=st++[s.sz]) hp hl hL N (fun x Z=>by
   rcases a09.1 Z with Z|Z
   ·have:=E x Z;omega
   rw[a0b]at Z;omega) fun c hc=>hb c (a0i _ hc)
  exact T
theorem fixJ_v{st pl}{z:Int}(hz:z<=60000)(h0:0<=z)(ad: ∀x∈st,0<=x/\x<=z)(aa: ∀x∈pl,0<=x/\x<=z){l}(h: ∀i∈l,VldI i){j}(U:0<=j.at_/\j.at_.toNat<l.length/\((l.getD j.at_.toNat v_).op=5\/(l.getD j.at_.toNat v_).op=7\/(l.getD j.at_.toNat v_).op=8)): ∀i∈fixJ st pl l j,VldI i:=fun i hi=>by
 rcases a1H hi with hi|rfl
 ·exact h i hi
 have N:=vld_at h U.2.1;have T: ∀{q:List Int} {n:Nat},(∀x∈q,0<=x/\x<=z)->0<=q.getD n 0/\q.getD n 0<=z:=fun{q n} hq=>by
  by_cases Z:n<q.length
  ·rw[a03,a06 Z];exact hq _ (a0T Z)
  rw[a03,a0J M];exact⟨a1G _,h0⟩
 have A:=T ad (n:=j.to.toNat);have E:=T aa (n:=j.at_.toNat);have hw:IntKind.i64.wrap (st.getD j.to.toNat 0-pl.getD j.at_.toNat 0)=st.getD j.to.toNat 0-pl.getD j.at_.toNat 0:=by rw[IntKind.wrap_i64];omega
 refine⟨N.o,N.a,N.a6,N.b,N.c,N.a0,N.b0,N.c0,fun _=>?_⟩;dsimp only;rw[hw];rcases U.2.2 with e|e|e
 ·rw[e];exact⟨by show-33554432<=_;omega,by show _<=(33554431:Int);omega⟩
 ·rw[e];exact⟨by show-4194304<=_;omega,by show _<=(4194303:Int);omega⟩
 rw[e];exact⟨by show-4194304<=_;omega,by show _<=(4194303:Int);omega⟩
theorem fixJ_op{st pl l j}(k:Nat):((fixJ st pl l j).getD k v_).op=(l.getD k v_).op:=by
 have e: ∀q:List InsT,(q.getD k v_).op=(q.map InsT.op).getD k (v_:InsT).op:=fun q=>by rw[a03,a03,a18];cases q[k]?<;>rfl
 rw[e,e,fixJ_sum]
theorem fixJ_len{st pl l j}:(fixJ st pl l j).length=l.length:=a0f
theorem fixE_v{st pl}{z:Int}(U:z<=60000)(h0:0<=z)(T: ∀x∈st,0<=x/\x<=z)(N: ∀x∈pl,0<=x/\x<=z): ∀(E:List JmpT) (l:List InsT),(∀i∈l,VldI i)->(∀j∈E,0<=j.at_/\j.at_.toNat<l.length/\((l.getD j.at_.toNat v_).op=5\/(l.getD j.at_.toNat v_).op=7\/(l.getD j.at_.toNat v_).op=8))->∀i∈fixE st pl l E,VldI i
 | [],_,h,_=>h
 |j::E,l,h,hj=>by
  have A:=fixE_v U h0 T N E (fixJ st pl l j) (fixJ_v U h0 T N h (hj j (a0q ..))) fun k Z=>by rw[fixJ_op,fixJ_len];exact hj k (a0i _ Z)
  exact A
theorem zp: ∀(l:List InsT) (s:EmS),(eW s l).sz<=s.sz+3 *(l.length:Int)
 | [],s=>by show s.sz<=s.sz+3 *0;omega
 |i::l,s=>by have A:=zp l (put1 s i);have E:=jA i;have N:(put1 s i).sz=s.sz+wdI i:=rfl;rw[gC,a04];omega
theorem zj(s:EmS)(i:InsT)(b:Int):(mF s i b).sz<=s.sz+3:=zp [i] ⟨s.l,s.pl,s.sz,s.js++[⟨(s.l.length:Int),b⟩]⟩
theorem ztr(s:EmS)(b:BlkT)(T:List LocT)(U:Int):(fu s b T U).sz<=s.sz+9:=by
 have Z:(eW s (fetS (atV T b.r))).sz<=s.sz+3:=by have A:=zp (fetS (atV T b.r)) s;have E:=kv (x:=atV T b.r);omega
 unfold fu;split
 ·split
  ·omega
  have:=zj s ⟨5,0,0,0,0⟩ b.t;omega
 split
 ·unfold lZ;have A:=fun i c=>zj (eW s (fetS (atV T b.r))) i c
  split
  ·have:=A ⟨8,eX (atV T b.r).inS (atV T b.r).x 5,0,0,0⟩ b.t;omega
  split
  ·have:=A ⟨7,eX (atV T b.r).inS (atV T b.r).x 5,0,0,0⟩ b.e;omega
  have:=A ⟨8,eX (atV T b.r).inS (atV T b.r).x 5,0,0,0⟩ b.t;have:=zj (mF (eW s (fetS (atV T b.r))) ⟨8,eX (atV T b.r).inS (atV T b.r).x 5,0,0,0⟩ b.t) ⟨5,0,0,0,0⟩ b.e;omega
 split
 ·have A:=zp [⟨2,0,0,0,0⟩] (eW s (eQ 0 (atV T b.r).inS (atV T b.r).x));have E:=zp (eQ 0 (atV T b.r).inS (atV T b.r).x) s;have N:(eQ 0 (atV T b.r).inS (atV T b.r).x).length<=1:=by
   unfold eQ;split
   ·simp
   split<;>simp
  rw[a0j]at A;omega
 have:=zp [⟨4,0,0,0,b.t⟩] s;rw[a0j]at this;omega
theorem zin{p g:Int}(Z:List LocT): ∀(l:List VInT) (s:EmS),(∀v∈l,eV p g v=true)->(lD Z s l).sz<=s.sz+33 *(l.length:Int)
 | [],s,_=>by show s.sz<=s.sz+33 *0;omega
 |v::l,s,h=>by
  have E:=zin Z l (eW s (lY v Z)) fun w hw=>h w (a0i _ hw)
  have N:=zp (lY v Z) s;have T:=exp_len (v:=v) (l:=Z);have hv:=h v (a0q ..);unfold eV at hv;simp only[a0a,decide_eq_true_eq]at hv;have U:=hv.1.1.1.1.1.2;have A:(lD Z s (v::l)).sz=(lD Z (eW s (lY v Z)) l).sz:=rfl;rw[A,a04];omega
theorem zpa(s:EmS): ∀n:Nat,(parE s n).sz<=s.sz+3 *(n:Int)
 |0=>by show s.sz<=s.sz+3 *0;omega
 |n+1=>by have A:=zpa s n;have E:(parE s (n+1)).sz<=(parE s n).sz+3:=zp _ _;omega
theorem zbl{p g nb:Int}(Z:List LocT): ∀(bs:List BlkT) (k:Int) (s:EmS) (st:List Int),(∀b∈bs,jZ p g nb b=true)->(∀b∈bs,b.v.length<=11)->(j3 Z bs k (s,st)).1.sz<=s.sz+372 *(bs.length:Int)
 | [],_,s,_,_,_=>by show s.sz<=s.sz+372 *0;omega
 |b::bs,k,s,st,h,hl=>by
  have E:=zbl Z bs (k+1) (fu (lD Z s b.v) b Z (k+1)) (st++[s.sz]) (fun w hw=>h w (a0i _ hw)) fun w hw=>hl w (a0i _ hw)
  have N:=ztr (lD Z s b.v) b Z (k+1);have hb:=h b (a0q ..);unfold jZ at hb;rw[a0a,a0t]at hb;have T:=zin Z b.v s hb.1;have U:=hl b (a0q ..);have A:(j3 Z (b::bs) k (s,st)).1.sz=(j3 Z bs (k+1) (fu (lD Z s b.v) b Z (k+1),st++[s.sz])).1.sz:=rfl;rw[A,a04];omega
theorem blks_v{c}(h:cb c=true): ∀b∈c.u,jZ c.m c.r (c.u.length:Int) b=true:=by unfold cb at h;rw[a0a]at h;exact a0t.1 h.2
structure ShF(c:VFnT):Prop where
 n:c.u.length<=7
 i: ∀b∈c.u,b.v.length<=11
theorem zfu{c}(hv:cb c=true)(hs:ShF c)(Z:List LocT)(s:EmS):(gg c Z s).1.sz<=s.sz+2700:=by have v:=e9 hv;have hp:=v.m;have A:=zbl Z c.u 0 (parE ⟨s.l,s.pl,s.sz,[]⟩ c.m.toNat) [] (blks_v hv) hs.i;have E:=zpa ⟨s.l,s.pl,s.sz,[]⟩ c.m.toNat;have N:=hs.n;have T:(gg c Z s).1.sz=(j3 Z c.u 0 (parE ⟨s.l,s.pl,s.sz,[]⟩ c.m.toNat,[])).1.sz:=rfl;have U:EmS.sz ⟨s.l,s.pl,s.sz,[]⟩=s.sz:=rfl;omega
theorem fun_v{c a}(s:SndP c a)(hs:ShF c){z:Int}(h0:0<=z)(hz:z<=50000): ∀i∈(gg c a.l ⟨[],[],z,[]⟩).1.l,VldI i:=by have v:=e9 s.val;have hp:=v.m;have Z:=loc_k s v;have T:=zfu s.val hs a.l ⟨[],[],z,[]⟩;have E:VOK (parE ⟨[],[],z,[]⟩ c.m.toNat):=VOK.par ⟨(fun i hi=>by cases hi),(fun i hi=>by cases hi),(fun i hi=>by cases hi),h0⟩ _ M;obtain⟨A,N⟩:=VOK.blk (bs:=c.u) (k:=0) (st:=[]) M s.len Z E (fun x hx=>by cases hx) (blks_v s.val);exact fixE_v (z:=(eZ c a.l ⟨[],[],z,[]⟩).1.sz) (by have:(gg c a.l ⟨[],[],z,[]⟩).1.sz=(eZ c a.l ⟨[],[],z,[]⟩).1.sz:=rfl;have U:EmS.sz ⟨[],[],z,[]⟩=z:=rfl;omega) A.z N A.pb _ _ A.vld A.jo
theorem okE_of{l a lens}(h:emC l a lens)(hs: ∀c∈l,ShF c):OkE l a:=by
 have hl:=(vp_imp h.vp).1;have sh: ∀k,k<l.length->ShF (l.getD k v_):=fun k Z=>by rw[a03,a06 Z];exact hs _ (a0T Z)
 have aa: ∀n,n<=l.length->(∀i∈(emS l a n).s.l,VldI i)/\0<=(emS l a n).s.sz/\(emS l a n).s.sz<=2700 *(n:Int):=fun n=>by
  induction n with
  |zero=>exact fun _=>⟨(fun i hi=>by cases hi),a1G _,a1G _⟩
  |succ n ih=>
   intro hn
   obtain⟨E,N,U⟩:=ih M
   have hf:=fun_v (h.snd n M) (sh n M) N M
   obtain⟨A,T,_⟩:=fun_sh (l.getD n v_) (a.getD n v_).l (lI l a n).1
   have hz:=zfu (h.snd n M).val (sh n M) (a.getD n v_).l (emS l a n).s
   have hm:=nN (l:=l) (a:=a) (k:=n) (n:=n+1) M
   have ez:(emS l a (n+1)).s.sz=(gg (l.getD n v_) (a.getD n v_).l (emS l a n).s).1.sz:=rfl
   refine⟨fun i hi=>?_,M,M⟩
   have hi:i∈(gg (l.getD n v_) (a.getD n v_).l (emS l a n).s).1.l:=hi
   rw[A]at hi
   rcases a09.1 hi with hi|hi
   ·exact E i hi
   exact hf i hi
 obtain⟨k1,_,a_⟩:=aa l.length (a0d _);exact⟨k1,M⟩
theorem blk_stl(E:List LocT): ∀(bs:List BlkT) (k:Int) (s:EmS) (st:List Int),(j3 E bs k (s,st)).2.length=st.length+bs.length
 | [],_,_,_=>rfl
 |b::bs,k,s,st=>by have h:=blk_stl E bs (k+1) (fu (lD E s b.v) b E (k+1)) (st++[s.sz]);have A:(j3 E (b::bs) k (s,st)).2=(j3 E bs (k+1) (fu (lD E s b.v) b E (k+1),st++[s.sz])).2:=rfl;rw[A,h,a02,a0j,a04];omega
theorem fun_stl(c:VFnT)(A:List LocT)(s:EmS):(gg c A s).2.length=c.u.length:=(blk_stl A c.u 0 _ []).trans (a1c _)
theorem emS_lens(l:List VFnT)(a:List AllT): ∀k,(emS l a k).en.length=k/\(emS l a k).pr.length=k/\(emS l a k).sl.length=k/\(emS l a k).ad.length=k
 |0=>⟨V,V,V,V⟩
 |k+1=>by
  obtain⟨A,E,N,T⟩:=emS_lens l a k;have e: ∀{α:Type} (q:List α) (x:α),q.length=k->(q++[x]).length=k+1:=fun q x h=>by rw[a02,a0j,h]
  exact⟨e _ _ A,e _ _ E,e _ _ N,e _ _ T⟩
theorem emS_adl{l a n}(h: ∀c∈l,c.u.length<=n): ∀k,k<=l.length->∀x∈(emS l a k).ad,x.length<=n
 |0,_,x,hx=>by cases hx
 |k+1,hk,x,hx=>by
  rcases a09.1 (show x∈(emS l a k).ad++[_] from hx) with hx|hx
  ·exact emS_adl h k M x hx
  rw[a0b]at hx;subst hx;rw[fun_stl];refine h _ ?_;rw[a03,a06 (show k<l.length by omega)];exact a0T _
structure EmB(x:BinT×List (List Int)×Int):Prop where
 w:x.1.wd.length<=60000
 e:x.1.en.length<=8
 p:x.1.pr.length<=8
 s:x.1.sl.length<=8
 a:x.1.al.length<=8
 d:x.2.1.length<=8
 dj: ∀j,(x.2.1.getD j v_).length<=1000
theorem emB_of(l:List VFnT)(a:List AllT)(lens:List Int)(hs: ∀c∈l,ShF c):EmB (emV l a lens):=by
 by_cases h:emC l a lens
 ·rw[emV_y h];have U:=okE_of h hs;have hl:=(vp_imp h.vp).1;obtain⟨A,E,N,T⟩:=emS_lens l a l.length;have hz:=lH U.vld (a0d _);have aa:=U.sz;have Z:=emS_adl (a:=a) (n:=1000) (fun c hc=>a0e (hs c hc).n e_) l.length (a0d _);refine⟨by dsimp only;omega,by dsimp only;omega,by dsimp only;omega,by dsimp only;omega,by dsimp only;omega,by dsimp only;omega,fun j=>?_⟩;dsimp only;rw[a03];rcases e:(emS l a l.length).ad[j]? with _|x
  ·exact a0r _
  exact Z x (a0m e)
 rw[ju h];exact⟨a0r _,a0r _,a0r _,a0r _,a0r _,a0r _,fun j=>by cases j<;>exact a0r _⟩
end ek
open ek
namespace en
variable (ex:FuncId) {F:Fz} {H:Heap} {R:List Fp}
theorem rd_13{v}(h:v.i.op=13\/v.i.op=38):aE v=[]/\ah v=[v.i.a]:=by unfold aE ah eE;rcases h with h|h<;>rw[h]<;>exact⟨V,V⟩
theorem tr_fst{S r}: ∀{l:List VInT} {n:Nat},(∀q,q<l.length->(l.getD q v_).i.a=((n+q:Nat):Int)/\((l.getD q v_).i.op=13\/(l.getD q v_).i.op=38))->tr l S r->S r/\¬(n<=r/\r<n+l.length)
 | [],n,_,h=>⟨h,fun A=>by simp only[a07]at A;omega⟩
 |v::l,n,hf,h=>by
  have h0:=hf 0 o_;obtain⟨N,T⟩:=rd_13 (v:=v) h0.2;rcases h with h|⟨h,A⟩
  ·rw[N]at h;cases h
  have E:=tr_fst (l:=l) (n:=n+1) (fun q hq=>by
   have U:=hf (q+1) l_;rw[show n+1+q=n+(q+1) by omega];exact U) h
  rw[T,a0b]at A;refine⟨E.1,fun a_=>E.2 ?_⟩;have Z:v.i.a=((n+0:Nat):Int):=h0.1;rw[a04]at a_;omega
theorem vf_in{c}{n:Int}(h:vfG c n)(r:Nat): ¬ptS c 0 0 r:=fun T=>by have v:=e9 h.val;have N:=iH v (b:=0) (i:=0) (by have:=v.nb;omega) T;obtain⟨U,e,hl,Z⟩:=h.fst;have A:bH c 0=⟨U,1,0,1,0⟩:=e;unfold ptS at T;rw[A]at T;have E:=(tr_fst (n:=0) (fun q hq=>by rw[a1c];exact Z q hq) T).2;apply E;show 0<=r/\r<0+U.length;omega
theorem lo_snoc{A:List AllT}{x:AllT}(h: ∀q,(A.getD q v_).l.length<=100000)(E:x.l.length<=100000): ∀q,((A++[x]).getD q v_).l.length<=100000:=fun q=>by
 rw[nZ];split
 ·exact E
 exact h q
theorem allocs_c{ai a0}(l:List VFnT)(hs:Hb H F H [] R)(hl:Sr F ai l a0)(hT:TB 37 tabC F)(e2: ∀k,k<l.length->∃n,n<=2/\vfG (l.getD k v_) n)(d2:l.length<=8):kKt ex 9 [(sL ai l.length a0)] H fun v H'=> ∃aa,∃(ka:Nat) (a:List AllT) (g:Bool),∃F',F.le F'/\Hb H F' H' [] R/\v= .tuple ⟨[sL aa a.length ka,.bool g]⟩/\Sr F' aa a ka/\g=true/\(a.length=l.length)/\(∀q,(a.getD q v_).l.length<=100000):=by
 refine aB Tryz.func9 V V (am 1 V (wT 2 [] 2 3 [] [(2,N_),(3,false)] V fun _=>wT 3 [] 1 0 [4] [(4,N_)] V fun _=>wT 2 [] 1 0 [5] [(5,(iI 0))] V fun _=>?_));have b5:=HS.snoc hs;refine aj (fun(mm:Nat) f H'=> ∃(al:List AllT) (k:Nat),∃A,∃(E:Nat),∃U F',F.le F'/\Hb H F' H' [U] R/\OZ F' A al E U/\aA f [(0,(sL ai l.length a0)),(4,(sL A al.length E)),(5,(k:Int))]/\mm=l.length-k/\(al.length=k)/\(∀q,(al.getD q v_).l.length<=100000)/\(k<=l.length)) _ ⟨([]:List AllT),0,none,0,[],_,fR,b5,(OS.nil:OS _ N_ ([]:List AllT) []),f_,V,m_,(by exact fun q=>by cases q<;>exact a0r _),M⟩ ?_;rintro ez f4 H4 ⟨al,k,A,E,U,F4,ar,ag,N,a4,rfl,h1,h2,hk⟩ b6;refine au _ a4 (fun _=>?_);clear a4;replace hT:=hT.mono ar;replace hl:=hl.mono ar;refine am 2 V (wT 1 [] 8 11 [] [(11,(decide ((k:Int)<(l.length:Int))))] V fun _=>zd 4 5 (fun c7=>?_) fun c7=>?_)
 ·obtain⟨n,em,hG⟩:=e2 k M;have f7:=hG.r;have f6:=hG.par;refine ab ?_;obtain⟨a3,a5⟩:=Sv.view (SR.sv hl ag);obtain⟨b9,cc,b2⟩:=VFnT.fx (a5 k);refine bK 4 0 15 18 [] [(18,(aG [(l.getD k v_).m,(l.getD k v_).r,(sL (cA (a3 k) 2) (l.getD k v_).u.length (cK (a3 k) 2))]))] (Ha_ (Sv.ix (j:=(k:Int)) (SR.sv hl ag)) (Hl_ 3 (qn 36 0 3 (VFnT.vw (a5 k)) V V V V) Hn_)) K_ V fun _=>zc (nr.ralloc_c ex (l.getD k v_) (HS.call ag) M M b2 hT (fun j=>a0e (hG.v j) M) (hG.val) M (vf_in hG)) ?_
  rintro _ dd ⟨T,a_,an,Z,ap,d1,c8,ax,aq,rfl,b3,av,aw,rfl,ci,co,c5⟩;replace aq:=HS.back ag V aq;replace N:=N.mono ax;let a8:Value:=(aG [(sL a_ T.l.length an),(sL Z T.p.length ap),T.k])
  refine bK 3 5 20 21 [14] [(20,a8),(21,(iI 0))] Hn_ K_ V fun _=>zn aq V fun dv dk bt=>sgo 2 9 1 0 [7] [(7,(iI 0))] (Hr_ 9 1 Hn_) bt V V fun ch dl ay=>ae 3 V (wT 1 [] 22 23 [] [(23,false)] V fun _=>dy 1 (v:=false) V V V V ?_)
  refine ab (aS 2 0 24 25 [] [(24,(sL A al.length E)),(25,a8)] (Hr_ 1 1 Hn_) ay V V fun _=>zlo [T] ay V (RL.cs ⟨a_,an,Z,ap,V,M,av,aw⟩ RL.nl) V fun dt et e0 dn bb a1=>zao 0 N a1 (OS.sv bb a1 (i:=2) V) V V V M fun a2 a7 b7 ds bk bz=>za (sL a2 (al++[T]).length a7) (ae 2 V ?_));refine wU 1 [] 12 13 [5] [(5,(iI ((k:Int)+1)))] (vi (n:=(k:Int)+1)) V fun _=>?_
  refine b6 _ _ _ ?_ ⟨al++[T],k+1,a2,a7,b7,_,(fT (ar) ax),(HS.sub bz (a01 _ _)),bk,f_,V,(by simp only[a02,a0j];omega),(lo_snoc h2 M),M⟩;omega
 refine wT 1 [] 2 3 [28] [(2,(sL A al.length E)),(3,true)] V fun _=>?_
 obtain⟨c9,a9,b1,bl,c6⟩:=OS.frz N ag (i:=0) V;refine ak ⟨.inr V,_,V,A,E,al,true,_,(fT (ar) a9),(HS.forget b1),V,bl,m_,M,(h2)⟩
theorem sameW_c{ad al}(a:List U32){ai an}(b:List U32)(hs:Hb H F H [] R)(ha:Sr F ad a al)(hb:Sr F ai b an)(hT:TB 37 tabC F)(ar:a.length<=1073741824)(he:a=b):kKt ex 43 [(S_ ad a al),(S_ ai b an)] H fun v H'=> ∃(r:Bool),H'=H/\v= .bool r/\r=true:=by
 refine aB Tryz.func43 V V (am 1 V (wT 3 [] 4 4 [] [(4,false)] V fun _=>wT 1 [] 6 10 [] [(10,((a.length:Int) !=(b.length:Int)))] V fun _=>dy 3 (v:=((a.length:Int) !=(b.length:Int))) V (by simp[he]) V V (wT 2 [] 1 0 [5] [(5,(iI 0))] V fun _=>?_)));refine aj (fun(mm:Nat) f H'=> ∃(i:Nat),H'=H/\aA f [(0,(S_ ad a al)),(1,(S_ ai b an)),(5,(i:Int))]/\mm=a.length-i/\(i<=a.length)) _ ⟨0,V,f_,V,M⟩ ?_;rintro ag f4 H ⟨i,rfl,A,rfl,h1⟩ T;refine au _ A (fun _=>?_);clear A;refine am 2 V (wT 1 [] 11 14 [] [(14,(decide ((i:Int)<(a.length:Int))))] V fun _=>zd 4 5 (fun U=>?_) fun U=>?_)
 ·have aw:i<b.length:=by rw[←he];omega
  obtain⟨a_,E⟩:=Sv.view (SR.sv ha hs);have g8:=fU3 (E i);obtain⟨Z,N⟩:=Sv.view (SR.sv hb hs);have aa:=fU3 (N i);refine wrDp 1 17 25 [] [(25,((a.getD i v_).n !=(b.getD i v_).n))] (Ha_ (Sv.ix (j:=(i:Int)) (SR.sv ha hs)) (Hl_ 3 (ql 160 0 (hc0 (vU3 (E i) M)) V V) (Ha_ (Sv.ix (j:=(i:Int)) (SR.sv hb hs)) (Hl_ 7 (ql 160 0 (hc0 (vU3 (N i) M)) V V) Hn_)))) V K_ V fun _=>dy 2 (v:=((a.getD i v_).n !=(b.getD i v_).n)) V (by rw[he];simp) V V (wU 1 [] 15 16 [5] [(5,(iI ((i:Int)+1)))] (vi (n:=(i:Int)+1)) V fun _=>?_)
  refine T _ _ _ ?_ ⟨i+1,V,f_,V,M⟩;omega
 refine wT 1 [] 4 4 [] [(4,true)] V fun _=>ak ⟨.inr V,_,V,true,V,V,m_⟩
theorem sameW_c_q{A N}(a:List U32){E T}(b:List U32)(hs:Hb H F H [] R)(ha:Sr F A a N)(hb:Sr F E b T)(Z:TB 37 tabC F)(U:a.length<=1073741824)(he:a=b):kKt ex 43 [(S_ A a N),(S_ E b T)] H fun v H'=>v=(.bool true)/\H'=H:=
 cq (sameW_c ex a b hs ha hb Z U he) (by rintro _ _ ⟨_,rfl,rfl,rfl⟩;exact⟨V,V⟩)
theorem sameB_c{a_ ax U aw T av N ar E aq}(a:BinT){ap a4 an a3 ag a2 aa a1 Z ay}(b:BinT)(hs:Hb H F H [] R)(a5:Sr F E a.wd aq)(a7:Sr F N a.en ar)(a8:Sr F T a.pr av)(a9:Sr F U a.sl aw)(bb:Sr F a_ a.al ax)(bk:Sr F Z b.wd ay)(bl:Sr F aa b.en a1)(bt:Sr F ag b.pr a2)(bz:Sr F an b.sl a3)(b2:Sr F ap b.al a4)(hT:TB 37 tabC F)(he:a=b)(hb:a.wd.length<=1073741824/\a.en.length<=1073741824/\a.pr.length<=1073741824/\a.sl.length<=1073741824/\a.al.length<=1073741824):kKt ex 15 [(aG [(S_ E a.wd aq),(S_ N a.en ar),(S_ T a.pr av),(S_ U a.sl aw),(S_ a_ a.al ax)]),(aG [(S_ Z b.wd ay),(S_ aa b.en a1),(S_ ag b.pr a2),(S_ an b.sl a3),(S_ ap b.al a4)])] H fun v H'=> ∃(r:Bool),∃F',F.le F'/\Hb H F' H' [] R/\v= .bool r/\r=true:=by refine aB Tryz.func15 V V (am 1 V (ab (aT (aN hs V V) V V ?_)));rintro _ H2 _ ⟨b1,rfl,b4,_⟩;refine aT (aN b4 V V) V V ?_;rintro _ H4 _ ⟨b3,rfl,A,_⟩;refine za (.bool false) (ae 2 V (aU 1 4 37 [] [(4,((((true&&decide (a.en=b.en))&&decide (a.pr=b.pr))&&decide (a.sl=b.sl))&&decide (a.al=b.al)))] (Hr_ 1 0 (Hr_ 3 1 (Hc_ 4 (sameW_c_q ex a.wd b.wd (HS.call A) a5 bk hT (hb.1) (congrArg BinT.wd he)) (bp 7 (fun _=>(ql 22 1 (h_ A V) V V)) (bp 9 (fun _=>(ql 22 1 (i_ A V) V V)) (Hc1_ 10 (fun _=>(m6.dB ex a.en b.en (HS.call A) a7 bl hT M)) (bp 14 (fun _=>(ql 22 2 (h_ A V) V V)) (bp 16 (fun _=>(ql 22 2 (i_ A V) V V)) (Hc1_ 17 (fun _=>(m6.dB ex a.pr b.pr (HS.call A) a8 bt hT M)) (bp 21 (fun _=>(ql 22 3 (h_ A V) V V)) (bp 23 (fun _=>(ql 22 3 (i_ A V) V V)) (Hc1_ 24 (fun _=>(m6.dB ex a.sl b.sl (HS.call A) a9 bz hT M)) (bp 28 (fun _=>(ql 22 4 (h_ A V) V V)) (bp 30 (fun _=>(ql 22 4 (i_ A V) V V)) (Hc1_ 31 (fun _=>(m6.dB ex a.al b.al (HS.call A) bb b2 hT M)) Hn_))))))))))))))) A V V fun _=>ak ⟨.inr V,_,V,((((true&&decide (a.en=b.en))&&decide (a.pr=b.pr))&&decide (a.sl=b.sl))&&decide (a.al=b.al)),_,fR,(HS.forget A),V,(by subst he;simp)⟩))
end en
open en
namespace m9
variable (ex:FuncId) {F:Fz} {H:Heap} {R:List Fp}
structure BlkH where
 h:Hd
 f:Int
 r:Int
 t:Int
 e:Int
 deriving Inhabited
instance :Rp BlkH where
 sz:=5
 rep F cs x:=cs=[sL x.h.a x.h.n x.h.k,iI x.f,iI x.r,iI x.t,iI x.e]/\in64 x.f/\in64 x.r/\in64 x.t/\in64 x.e
 len:=by rintro F cs x ⟨rfl,_⟩;rfl
 one:=by rintro F cs x ⟨rfl,_⟩;rfl
 mono:=by intro F F' cs x _ h;exact h
theorem BlkH.vw{F}{get:Nat->Option AObj}{v:Value}{cf:Nat->List Value}{j:Nat}{l:List BlkH}(h:VW F get v l cf j)(N:j<l.length:=by first|(dsimp only;omega)|omega):HC get (sB v) (sO v+j *Rp.sz BlkH) [sL (l.getD j v_).h.a (l.getD j v_).h.n (l.getD j v_).h.k,iI (l.getD j v_).f,iI (l.getD j v_).r,iI (l.getD j v_).t,iI (l.getD j v_).e]:=by obtain⟨⟨E,_⟩,A⟩:=h.1 v_ N;rw[show cf j=_ from E]at A;exact A
theorem BlkH.fx{F}{get:Nat->Option AObj}{v:Value}{cf:Nat->List Value}{j:Nat}{l:List BlkH}(h:VW F get v l cf j):in64 (l.getD j v_).f/\in64 (l.getD j v_).r/\in64 (l.getD j v_).t/\in64 (l.getD j v_).e:=by
 rcases a0k j l.length with hj|hj
 ·obtain⟨⟨T,h0,A,E,N⟩,_⟩:=h.1 v_ hj;exact⟨h0,A,E,N⟩
 rw[bZ hj];exact⟨by decide,by decide,by decide,by decide⟩
instance :HasHd BlkH:=⟨fun h=>h.h⟩
def blkZ(hs:List BlkH)(ls:List (List VInT)):List BlkT:=List.zipWith (fun h l=>⟨l,h.f,h.r,h.t,h.e⟩) hs ls
theorem blkH_rows{F v hs ls}(h:SR F v hs)(hl:hs.length<=ls.length)(k: ∀i,i<ls.length->SR F (HasHd.hd (hs.getD i v_)).v (ls.getD i [])):SR F v (blkZ hs ls):=by
 refine SR.conv (α:=BlkH) (β:=BlkT) V h (by unfold blkZ;rw[List.length_zipWith];omega) F.le_refl fun i x y Z hy c hc=>?_
 have hi:=(a0u.1 Z).1;have k1:=k i M;have A:hs.getD i v_=x:=by rw[a03,Z];rfl
 have E:ls[i]?=some (ls.getD i []):=aO M;rw[A]at k1;have hn:=SR.n (h:=x.h) k1;unfold blkZ at hy;rw[List.getElem?_zipWith,Z,E]at hy;obtain rfl:=(Option.some.inj hy)
 obtain⟨rfl,N,T,U,a_⟩:=hc;exact⟨x.h.a,x.h.k,by rw[←hn],N,T,U,a_,by rw[←hn];exact k1⟩
def okI(m:Nat)(y:List VInT):Prop:=y.length<=11/\∀z∈y,z.args.length<=m
theorem ok_snoc{m l x}(h: ∀y∈l,okI m y)(E:okI m x): ∀y∈l++[x],okI m y:=fun y A=>by
 rcases a09.1 A with A|A
 ·exact h y A
 rw[a0b]at A;rw[A];exact E
theorem dG{m i:Nat}{l:List (List VInT)}(h: ∀y∈l,okI m y):okI m (l.getD i v_):=by
 rw[a03];rcases hi:l[i]? with _|y
 ·exact⟨a0r _,fun z A=>by cases A⟩
 exact h y (a0m hi)
theorem fY{m i y}(h:okI m y):(y.getD i v_).args.length<=m:=by
 rw[a03];rcases hi:y[i]? with _|z
 ·exact a0r _
 exact h.2 z (a0m hi)
theorem lm{m:Nat}{l:List (List VInT)}(h: ∀y∈l,okI m y): ∀y∈l,okI (m+1) y:=fun y A=>⟨(h y A).1,fun z E=>a1z ((h y A).2 z E)⟩
theorem mA{m T i:Nat}{l:List (List VInT)}{z:VInT}(h: ∀y∈l,okI m y)(U:z.args.length<=m+1): ∀y∈l.set T ((l.getD T v_).set i z),okI (m+1) y:=fun y N=>by
 rcases a1H N with N|N
 ·exact lm h y N
 subst N;have A:=dG (i:=T) h;refine⟨by rw[a0f];exact A.1,fun w E=>?_⟩;rcases a1H E with E|E
 ·exact a1z (A.2 w E)
 subst E;exact U
theorem ok_more{m l}{n:Int}(h:l.length<=m):(l++[n]).length<=m+1:=by simp;omega
theorem blkZ_ok{m hs ls}(h: ∀y∈ls,okI m y)(j:Nat):okI m ((blkZ hs ls).getD j v_).v:=by
 unfold blkZ;rw[a03,List.getElem?_zipWith];cases hs[j]? with
 |none=>exact⟨a0r _,fun z A=>by cases A⟩
 |some x=>
  cases E:ls[j]? with
  |none=>exact⟨a0r _,fun z A=>by cases A⟩
  |some y=>exact h y (a0m E)
theorem blkZ_len{hs ls}:(blkZ hs ls).length<=hs.length:=by unfold blkZ;rw[List.length_zipWith];omega
theorem mut_c{g9:Option Addr}{hg:Nat}(c:VFnT)(fz:Int)(al:Int)(hs:HS (.of H []) F H [] R)(tR:in64 c.m)(tS:in64 c.r)(f7:SR F (sL g9 c.u.length hg) c.u)(u2:in64 fz)(u1:in64 al)(hT:TB 37 tabC F)(hb:1<=c.u.length/\c.u.length<=1000)(hi: ∀j,okI 7 (c.u.getD j v_).v):kKt ex 12 [(aG [(iI c.m),(iI c.r),(sL g9 c.u.length hg)]),(iI fz),(iI al)] H fun v H'=> ∃(x:VFnT) (h4:Option Addr) (ka:Nat) (F':Fz),F.le F'/\HS (.of H []) F' H' [] R/\v= .agg ⟨[iI x.m,iI x.r,sL h4 x.u.length ka]⟩/\in64 x.m/\in64 x.r/\SR F' (sL h4 x.u.length ka) x.u/\(x.u.length<=c.u.length)/\(∀m,(∀j,okI m (c.u.getD j v_).v)->∀j,okI (m+1) (x.u.getD j v_).v):=by
 refine aB Tryz.func12 V V (am 1 V (ab (aT (aN hs V V) V V ?_)));rintro _ H2 _ ⟨b1,rfl,ri,_⟩;refine zn ri V fun b3 H4 rj=>ae 2 V (ab (wTo 2 0 [] 15 16 [] [(16,(aG [(iI fz)]))] V fun _=>aT (aN rj V V) V V ?_))
 rintro _ H7 _ ⟨b6,rfl,ph,_⟩;refine za (pT b6 0) (ae 2 V (ab (aS 5 0 18 22 [] [(22,(aG [(iI c.m),(iI c.r),(sL none 0 0)]))] (Hr_ 1 0 (Hr_ 3 0 Hn_)) ph V V fun _=>zn ph V fun b9 ub p7=>sgo 1 6 1 0 [] [] (Hr_ 6 3 Hn_) p7 V V fun tG uc p8=>?_)));refine ae 3 V (wT 2 [] 1 0 [9] [(9,(iI 0))] V fun _=>?_);have p9:=HS.snoc p8;have qa:=HS.snoc p9;have h7:SF F ([]:List BlkH) ([]:List (List VInT)) []:=rfl;have tw:=FAM.len h7;let kg:Fp:=(fP b1 [(iI c.m),(iI c.r),(sL g9 c.u.length hg)])
 let ki:Fp:=(fP b3 [(iI 0),(iI 0),(sL none 0 0)])
 refine aj (fun(mm:Nat) f H'=> ∃(hv:List BlkH) (lv:List (List VInT)) (b:Nat) (T:Fp) (A:Option Addr) (E:Nat) (fd:Fp) (F':Fz),F.le F'/\HS (Base.of H []) F' H' [kg,ki,(fP b6 [(iI fz)]),(fP b9 [(iI c.m),(iI c.r),(sL A hv.length E)]),T,fd] R/\OS F' (sL A hv.length E) hv T/\SF F' hv lv fd/\aA f [(2,(iI al)),(3,(pT b1 0)),(6,(pT b3 0)),(7,(pT b6 0)),(8,(pT b9 0)),(9,(iI (b:Int)))]/\mm=c.u.length-b/\(hv.length=b)/\(∀y∈lv,okI 7 y)/\(b<=c.u.length)/\(∀m,(∀j,okI m (c.u.getD j v_).v)->∀y∈lv,okI m y)) _ ⟨([]:List BlkH),([]:List (List VInT)),0,[],none,0,[],_,fR,qa,(OS.nil:OS F (sL none 0 0) ([]:List BlkH) []),h7,f_,V,m_,o_,M,o_⟩ ?_;rintro tZ uw o9 ⟨hv,lv,b,T,A,E,fd,hh,et,bt,N,e6,h8,rfl,e1,e2,e3,e4⟩ qt;refine au _ h8 (fun _=>?_);clear h8;replace hT:=hT.mono et;replace f7:=f7.mono et;have qJ:=FAM.len e6;have xK:=(hi b).1;refine am 2 V (aU 1 23 27 [] [(27,(.bool (decide ((b:Int)<(c.u.length:Int)))))] (Hr_ 2 0 Hn_) bt V V fun _=>zd 4 5 (fun qP=>?_) fun qP=>?_)
 ·refine ab ?_;obtain⟨f4,jb⟩:=Sv.view (SR.sv f7 bt);obtain⟨rK,rL,rM,rO,o8⟩:=BlkT.fx (jb b);refine aS 5 0 30 34 [] [(34,(aG [(sL (cA (f4 b) 0) (c.u.getD b v_).v.length (cK (f4 b) 0)),(iI (c.u.getD b v_).f),(iI (c.u.getD b v_).r),(iI (c.u.getD b v_).t),(iI (c.u.getD b v_).e)]))] (Hr_ 1 0 (Ha_ (Sv.ix (j:=(b:Int)) (SR.sv f7 bt)) (Hl_ 4 (qn 82 0 5 (BlkT.vw (jb b)) V V V V) Hn_))) bt V V fun _=>zn bt V fun uv ud qb=>sgo 1 6 1 0 [] [] (Hr_ 6 6 Hn_) qb V V fun tH ue i2=>ae 2 V (ab (aS 2 0 35 36 [] [(36,(sL (cA (f4 b) 0) (c.u.getD b v_).v.length (cK (f4 b) 0)))] (Hr_ 1 6 Hn_) i2 V V fun _=>?_))
  have i3:=HS.snoc i2;refine zao 7 (OS.nil:OS hh (sL none 0 0) ([]:List VInT) []) i3 (SR.sv o8 i3) V V V (by(simp only[a02,a04,a07];first|omega|(have hq:=fY (i:=kk) (dG (i:=ii) e2);omega))) fun fj f0 rl uf ha qc=>?_
  have ha:OS hh (sL fj (c.u.getD b v_).v.length f0) (c.u.getD b v_).v rl:=ha;refine sgo 2 3 38 38 [] [] (Hr_ 4 6 Hn_) qc V V fun tI ug i4=>ae 1 V (ab (aS 3 0 39 41 [] [(40,(sL A hv.length E)),(41,(aG [(sL fj (c.u.getD b v_).v.length f0),(iI (c.u.getD b v_).f),(iI (c.u.getD b v_).r),(iI (c.u.getD b v_).t),(iI (c.u.getD b v_).e)]))] (Hr_ 1 3 (Hr_ 2 6 Hn_)) i4 V V fun _=>zlo ([(⟨(⟨fj,(c.u.getD b v_).v.length,f0⟩:Hd),(c.u.getD b v_).f,(c.u.getD b v_).r,(c.u.getD b v_).t,(c.u.getD b v_).e⟩:BlkH)]:List BlkH) i4 V (RL.cs ⟨V,M,M,M,M⟩ RL.nl) V fun uu uA uB uh p5 i5=>zao 4 N i5 (OS.sv p5 i5 (i:=8) V) V V V (by(simp only[a02,a04,a07];first|omega|(have hq:=fY (i:=kk) (dG (i:=ii) e2);omega))) fun qN rk rm ui p6 qd=>?_))
  obtain⟨h5,qe,f8⟩:=SF.add (⟨(⟨fj,(c.u.getD b v_).v.length,f0⟩:Hd),(c.u.getD b v_).f,(c.u.getD b v_).r,(c.u.getD b v_).t,(c.u.getD b v_).e⟩:BlkH) e6 qd (q:=5) (m:=7) e_ V V ha;have f8:SF hh (hv++([(⟨(⟨fj,(c.u.getD b v_).v.length,f0⟩:Hd),(c.u.getD b v_).f,(c.u.getD b v_).r,(c.u.getD b v_).t,(c.u.getD b v_).e⟩:BlkH)]:List BlkH)) (lv++[(c.u.getD b v_).v]) h5:=f8;have tx:=FAM.len f8;refine sgo 2 5 44 44 [] [] (Hr_ 6 3 Hn_) qe V V fun tJ uj qf=>ae 2 V (wU 1 [] 28 29 [9] [(9,(iI ((b:Int)+1)))] (vi (n:=(b:Int)+1)) V fun _=>?_)
  refine qt _ _ _ ?_ ⟨hv++([(⟨(⟨fj,(c.u.getD b v_).v.length,f0⟩:Hd),(c.u.getD b v_).f,(c.u.getD b v_).r,(c.u.getD b v_).t,(c.u.getD b v_).e⟩:BlkH)]:List BlkH),lv++[(c.u.getD b v_).v],b+1,rm,qN,rk,h5,_,(et),(HS.sub qf (a01 _ _)),p6,f8,f_,V,l_,(ok_snoc e2 (hi b)),M,(fun m hm=>ok_snoc (e4 m hm) (hm b))⟩;omega
 have tE:=dF al (hv.length:Int);refine sdr0 2 45 52 [11] [(11,(.pointer (some ⟨sB (sL A hv.length E),sO (sL A hv.length E)+(bh al (hv.length:Int)).toNat *Rp.sz BlkH,none⟩)))] (Hr_ 1 3 (Hr_ 4 3 (Hc_ 6 (m1.eP ex al (hv.length:Int) {o9 with log:=[]} M) (Ha_ (Sv.ix (j:=bh al (hv.length:Int)) (OS.sv N bt (i:=4) rfl)) Hn_)))) bt rfl rfl rfl fun _=>?_
 have uF:(bh al (hv.length:Int)).toNat<hv.length:=M
 generalize (bh al (hv.length:Int)).toNat=ii at uF⊢;refine wT 3 [] 1 0 [12] [(12,(.pointer none))] V fun _=>?_
 obtain⟨ts,jq⟩:=Sv.view (OS.sv N bt (i:=4) V);obtain⟨rP,rQ,rR,rS⟩:=BlkH.fx (jq ii);obtain⟨tB,pR,e5,bk,h6⟩:=SF.open e6 bt (q:=5) (i:=ii) V M;have bk:OS hh (sL (hv.getD ii v_).h.a (hv.getD ii v_).h.n (hv.getD ii v_).h.k) (lv.getD ii v_) pR:=bk;have tV:=OS.nlen bk;refine wrp 1 53 58 [] [(58,(.bool (decide ((0:Int)<((hv.getD ii v_).h.n:Int)))))] (Hl_ 3 (ql 80 0 (BlkH.vw (jq ii) M) V V) Hn_) K_ V fun _=>zd 0 0 (fun qQ=>?_) fun qQ=>?_
 ·have xL:=(dG (i:=ii) e2).1;obtain⟨tt,hf⟩:=Sv.view (OS.sv N e5 (i:=4) V);obtain⟨rU,rV,rW,rX⟩:=BlkH.fx (hf ii);have t8:in64 al->in64 (Int.tdiv al 7):=fun h=>vq h e_
  have tF:=dF (Int.tdiv al 7) ((hv.getD ii v_).h.n:Int);refine wrDp 2 59 71 [12] [(12,(.pointer (some ⟨sB (sL (hv.getD ii v_).h.a (hv.getD ii v_).h.n (hv.getD ii v_).h.k),sO (sL (hv.getD ii v_).h.a (hv.getD ii v_).h.n (hv.getD ii v_).h.k)+(bh (Int.tdiv al 7) ((hv.getD ii v_).h.n:Int)).toNat *Rp.sz VInT,none⟩)))] (Hl_ 3 (ql 80 0 (hc0 (BlkH.vw (hf ii) M)) V V) (Ha_ (vA (show(7:Int)≠0 from by decide) (vq (a:=al) (b:=7) M e_)) (Hl_ 9 (ql 80 0 (hc0 (BlkH.vw (hf ii) M)) V V) (Hc_ 11 (m1.eP ex (Int.tdiv al 7) ((hv.getD ii v_).h.n:Int) {o9 with log:=[]} M) (Ha_ (Sv.ix (j:=bh (Int.tdiv al 7) ((hv.getD ii v_).h.n:Int)) (OS.sv bk e5 (i:=6) rfl)) Hn_))))) rfl K_ rfl fun _=>?_
  have uI:(bh (Int.tdiv al 7) ((hv.getD ii v_).h.n:Int)).toNat<(lv.getD ii v_).length:=M
  generalize (bh (Int.tdiv al 7) ((hv.getD ii v_).h.n:Int)).toNat=kk at uI⊢;refine ab (zm (pT b6 0) (zc (m4.cR ex (⟨fz⟩:DigT) (40) (HS.callOwn e5 (i:=2) V) M M hT M) ?_));rintro _ uk ⟨a_,pP,t9,ez,g6,rfl,q4,uy⟩;replace g6:=e5.bO g6;replace hT:=hT.mono ez;refine wUo 2 2 [] 76 76 [13] [(13,(iI (a_-2)))] (vi (n:=a_-2)) V fun _=>ae 3 V (ab (zm (pT b6 0) (zc (m4.cR ex (⟨pP.n⟩:DigT) (14) (HS.callOwn g6 (i:=2) V) M M hT M) ?_)))
  rintro _ ul ⟨bb,pQ,c7,e0,he,rfl,q5,uz⟩;replace he:=g6.bO he;replace hT:=hT.mono e0;replace bk:=(bk.mono ez).mono e0;replace N:=(N.mono ez).mono e0;refine za (iI bb) (ae 3 V (wT 1 [] 79 81 [] [(79,(.bool (bb==0)))] V fun _=>?_));obtain⟨c6,ay,a1⟩:=SF.shut0 h6 (fT (ez) e0) he (q:=5) (m:=6) e_ V V bk;have tz:=FAM.len a1;refine ba (fun f H'=> ∃(a7:List BlkH) (dd:List (List VInT)) (pq:Int) (rq:Int) (b8:Fp) (a8:Option Addr) (a9:Nat) (fi:Fp) (F':Fz),c7.le F'/\HS (Base.of H []) F' H' [kg,ki,(fP b6 [(iI pQ.n)]),(fP b9 [(iI pq),(iI rq),(sL a8 a7.length a9)]),b8,fi,[]] R/\OS F' (sL a8 a7.length a9) a7 b8/\SF F' a7 dd fi/\aA f [(6,(pT b3 0)),(8,(pT b9 0))]/\(in64 pq/\in64 rq)/\(a7.length<=c.u.length)/\(∀m,(∀j,okI m (c.u.getD j v_).v)->∀y∈dd,okI (m+1) y)) (fun a2=>?_) ?_
  ·refine zI 0 1 (fun qR=>?_) fun qR=>?_
   ·refine sgr 0 82 83 [] [] (Hr_ 2 3 Hn_) ay V V fun tK un qh=>?_
    exact a2 _ _ ⟨hv,lv,a_-2,c.r,T,A,E,c6,_,fR,qh,N,a1,f_,M,M,(fun m hm=>by exact lm (e4 m hm))⟩
   refine wT 1 [] 84 86 [] [(84,(.bool (bb==1)))] V fun _=>zI 0 1 (fun qS=>?_) fun qS=>?_
   ·refine sgr 0 87 88 [] [] (Hr_ 2 3 Hn_) ay V V fun tL uo qi=>?_
    exact a2 _ _ ⟨hv,lv,c.m,a_-2,T,A,E,c6,_,fR,qi,N,a1,f_,M,M,(fun m hm=>by exact lm (e4 m hm))⟩
   refine wT 1 [] 89 91 [] [(89,(.bool (bb==2)))] V fun _=>zI 0 1 (fun qT=>?_) fun qT=>?_
   ·refine ab (bK 4 0 92 95 [] [(93,(iI (a_-2))),(95,(.pointer (some ⟨sB (sL A hv.length E),sO (sL A hv.length E)+ii *Rp.sz BlkH+1,none⟩)))] Hn_ K_ V fun _=>?_);have p0:=SF.put (⟨(hv.getD ii v_).h,a_-2,(hv.getD ii v_).r,(hv.getD ii v_).t,(hv.getD ii v_).e⟩:BlkH) a1 (i:=ii) V;refine cL (bW (α:=BlkH) (j:=ii) (off:=1) (q:=4) (⟨(hv.getD ii v_).h,a_-2,(hv.getD ii v_).r,(hv.getD ii v_).t,(hv.getD ii v_).e⟩:BlkH) N ay V V V V V V V V (aO (x:=v_) M) V (by rintro cs ⟨rfl,an,ap,aq,ar⟩;exact⟨a08 V,⟨V,M,ap,aq,ar⟩⟩)) V ?_;rintro _ up rn ⟨ih,qj,_⟩;have sb:=OS.len' ih;refine ae 0 V ?_;exact a2 _ _ ⟨hv.set ii (⟨(hv.getD ii v_).h,a_-2,(hv.getD ii v_).r,(hv.getD ii v_).t,(hv.getD ii v_).e⟩:BlkH),lv,c.m,c.r,rn,A,E,c6,_,fR,(by(simp only[a0f];exact qj)),(OS.norm ih),p0,f_,M,M,(fun m hm=>by exact lm (e4 m hm))⟩
   refine wT 1 [] 96 98 [] [(96,(.bool (bb==3)))] V fun _=>zI 0 1 (fun qU=>?_) fun qU=>?_
   ·refine ab (bK 4 0 99 102 [] [(100,(iI (a_-2))),(102,(.pointer (some ⟨sB (sL A hv.length E),sO (sL A hv.length E)+ii *Rp.sz BlkH+2,none⟩)))] Hn_ K_ V fun _=>?_);have p2:=SF.put (⟨(hv.getD ii v_).h,(hv.getD ii v_).f,a_-2,(hv.getD ii v_).t,(hv.getD ii v_).e⟩:BlkH) a1 (i:=ii) V;refine cL (bW (α:=BlkH) (j:=ii) (off:=2) (q:=4) (⟨(hv.getD ii v_).h,(hv.getD ii v_).f,a_-2,(hv.getD ii v_).t,(hv.getD ii v_).e⟩:BlkH) N ay V V V V V V V V (aO (x:=v_) M) V (by rintro cs ⟨rfl,an,ap,aq,ar⟩;exact⟨a08 V,⟨V,an,M,aq,ar⟩⟩)) V ?_;rintro _ uq rp ⟨ik,qk,_⟩;have sc:=OS.len' ik;refine ae 0 V ?_;exact a2 _ _ ⟨hv.set ii (⟨(hv.getD ii v_).h,(hv.getD ii v_).f,a_-2,(hv.getD ii v_).t,(hv.getD ii v_).e⟩:BlkH),lv,c.m,c.r,rp,A,E,c6,_,fR,(by(simp only[a0f];exact qk)),(OS.norm ik),p2,f_,M,M,(fun m hm=>by exact lm (e4 m hm))⟩
   refine wT 1 [] 103 105 [] [(103,(.bool (bb==4)))] V fun _=>zI 0 1 (fun qV=>?_) fun qV=>?_
   ·refine ab (bK 4 0 106 109 [] [(107,(iI (a_-2))),(109,(.pointer (some ⟨sB (sL A hv.length E),sO (sL A hv.length E)+ii *Rp.sz BlkH+3,none⟩)))] Hn_ K_ V fun _=>?_);have p3:=SF.put (⟨(hv.getD ii v_).h,(hv.getD ii v_).f,(hv.getD ii v_).r,a_-2,(hv.getD ii v_).e⟩:BlkH) a1 (i:=ii) V;refine cL (bW (α:=BlkH) (j:=ii) (off:=3) (q:=4) (⟨(hv.getD ii v_).h,(hv.getD ii v_).f,(hv.getD ii v_).r,a_-2,(hv.getD ii v_).e⟩:BlkH) N ay V V V V V V V V (aO (x:=v_) M) V (by rintro cs ⟨rfl,an,ap,aq,ar⟩;exact⟨a08 V,⟨V,an,ap,M,ar⟩⟩)) V ?_;rintro _ ur rr ⟨il,qm,_⟩;have sd:=OS.len' il;refine ae 0 V ?_;exact a2 _ _ ⟨hv.set ii (⟨(hv.getD ii v_).h,(hv.getD ii v_).f,(hv.getD ii v_).r,a_-2,(hv.getD ii v_).e⟩:BlkH),lv,c.m,c.r,rr,A,E,c6,_,fR,(by(simp only[a0f];exact qm)),(OS.norm il),p3,f_,M,M,(fun m hm=>by exact lm (e4 m hm))⟩
   refine wT 1 [] 110 112 [] [(110,(.bool (bb==5)))] V fun _=>zI 0 1 (fun qW=>?_) fun qW=>?_
   ·refine ab (bK 4 0 113 116 [] [(114,(iI (a_-2))),(116,(.pointer (some ⟨sB (sL A hv.length E),sO (sL A hv.length E)+ii *Rp.sz BlkH+4,none⟩)))] Hn_ K_ V fun _=>?_);have p4:=SF.put (⟨(hv.getD ii v_).h,(hv.getD ii v_).f,(hv.getD ii v_).r,(hv.getD ii v_).t,a_-2⟩:BlkH) a1 (i:=ii) V;refine cL (bW (α:=BlkH) (j:=ii) (off:=4) (q:=4) (⟨(hv.getD ii v_).h,(hv.getD ii v_).f,(hv.getD ii v_).r,(hv.getD ii v_).t,a_-2⟩:BlkH) N ay V V V V V V V V (aO (x:=v_) M) V (by rintro cs ⟨rfl,an,ap,aq,ar⟩;exact⟨a08 V,⟨V,an,ap,aq,M⟩⟩)) V ?_;rintro _ us rt ⟨it,qo,_⟩;have se:=OS.len' it;refine ae 0 V ?_;exact a2 _ _ ⟨hv.set ii (⟨(hv.getD ii v_).h,(hv.getD ii v_).f,(hv.getD ii v_).r,(hv.getD ii v_).t,a_-2⟩:BlkH),lv,c.m,c.r,rt,A,E,c6,_,fR,(by(simp only[a0f];exact qo)),(OS.norm it),p4,f_,M,M,(fun m hm=>by exact lm (e4 m hm))⟩
   refine wT 1 [] 117 119 [] [(117,(.bool (bb==6)))] V fun _=>zI 0 1 (fun qX=>?_) fun qX=>?_
   ·obtain⟨tC,pS,qp,g1,pX⟩:=SF.open a1 ay (q:=5) (i:=ii) V M;have g1:OS c7 (sL (hv.getD ii v_).h.a (hv.getD ii v_).h.n (hv.getD ii v_).h.k) (lv.getD ii v_) pS:=g1;have tW:=OS.nlen g1;refine ab (wTo 5 0 [] 120 124 [] [(121,(iI (a_-2))),(124,(.pointer (some ⟨sB (sL (hv.getD ii v_).h.a (hv.getD ii v_).h.n (hv.getD ii v_).h.k),sO (sL (hv.getD ii v_).h.a (hv.getD ii v_).h.n (hv.getD ii v_).h.k)+kk *Rp.sz VInT,none⟩)))] V fun _=>cL (bW (α:=VInT) (j:=kk) (off:=0) (q:=7) (⟨(⟨a_-2,((lv.getD ii v_).getD kk v_).i.a,((lv.getD ii v_).getD kk v_).i.b,((lv.getD ii v_).getD kk v_).i.c,((lv.getD ii v_).getD kk v_).i.n⟩:InsT),((lv.getD ii v_).getD kk v_).args⟩:VInT) g1 qp V V V V V V V V (aO (x:=v_) M) V (by rintro cs ⟨ch,c5,rfl,ci,an,ap,aq,ar,co⟩;exact⟨a08 V,⟨ch,c5,V,M,an,ap,aq,ar,co⟩⟩)) V ?_);rintro _ ut uC ⟨iv,qq,_⟩;have sf:=OS.len' iv;refine ae 0 V ?_;obtain⟨pW,qr,ib⟩:=SF.shut pX fR qq (q:=5) (m:=7) e_ V V iv;have tA:=FAM.len ib;exact a2 _ _ ⟨hv,lv.set ii ((lv.getD ii v_).set kk (⟨(⟨a_-2,((lv.getD ii v_).getD kk v_).i.a,((lv.getD ii v_).getD kk v_).i.b,((lv.getD ii v_).getD kk v_).i.c,((lv.getD ii v_).getD kk v_).i.n⟩:InsT),((lv.getD ii v_).getD kk v_).args⟩:VInT)),c.m,c.r,T,A,E,pW,_,fR,(HS.sub qr (a01 _ _)),N,ib,f_,M,M,(fun m hm=>by exact mA (e4 m hm) (a1z (fY (dG (e4 m hm)))))⟩
   refine wT 1 [] 125 127 [] [(125,(.bool (bb==7)))] V fun _=>zI 0 1 (fun qY=>?_) fun qY=>?_
   ·obtain⟨tD,pU,qs,g2,pY⟩:=SF.open a1 ay (q:=5) (i:=ii) V M;have g2:OS c7 (sL (hv.getD ii v_).h.a (hv.getD ii v_).h.n (hv.getD ii v_).h.k) (lv.getD ii v_) pU:=g2;have tY:=OS.nlen g2;refine ab (wTo 5 0 [] 128 132 [] [(129,(iI (a_-2))),(132,(.pointer (some ⟨sB (sL (hv.getD ii v_).h.a (hv.getD ii v_).h.n (hv.getD ii v_).h.k),sO (sL (hv.getD ii v_).h.a (hv.getD ii v_).h.n (hv.getD ii v_).h.k)+kk *Rp.sz VInT+1,none⟩)))] V fun _=>cL (bW (α:=VInT) (j:=kk) (off:=1) (q:=7) (⟨(⟨((lv.getD ii v_).getD kk v_).i.op,a_-2,((lv.getD ii v_).getD kk v_).i.b,((lv.getD ii v_).getD kk v_).i.c,((lv.getD ii v_).getD kk v_).i.n⟩:InsT),((lv.getD ii v_).getD kk v_).args⟩:VInT) g2 qs V V V V V V V V (aO (x:=v_) M) V (by rintro cs ⟨ch,c5,rfl,ci,an,ap,aq,ar,co⟩;exact⟨a08 V,⟨ch,c5,V,ci,M,ap,aq,ar,co⟩⟩)) V ?_);rintro _ sJ t0 ⟨hC,n5,_⟩;have q6:=OS.len' hC;refine ae 0 V ?_;obtain⟨k3,n6,hp⟩:=SF.shut pY fR n5 (q:=5) (m:=7) e_ V V hC;have ru:=FAM.len hp;exact a2 _ _ ⟨hv,lv.set ii ((lv.getD ii v_).set kk (⟨(⟨((lv.getD ii v_).getD kk v_).i.op,a_-2,((lv.getD ii v_).getD kk v_).i.b,((lv.getD ii v_).getD kk v_).i.c,((lv.getD ii v_).getD kk v_).i.n⟩:InsT),((lv.getD ii v_).getD kk v_).args⟩:VInT)),c.m,c.r,T,A,E,k3,_,fR,(HS.sub n6 (a01 _ _)),N,hp,f_,M,M,(fun m hm=>by exact mA (e4 m hm) (a1z (fY (dG (e4 m hm)))))⟩
   refine wT 1 [] 133 135 [] [(133,(.bool (bb==8)))] V fun _=>zI 0 1 (fun px=>?_) fun px=>?_
   ·obtain⟨rE,kp,n7,d1,lf⟩:=SF.open a1 ay (q:=5) (i:=ii) V M;have d1:OS c7 (sL (hv.getD ii v_).h.a (hv.getD ii v_).h.n (hv.getD ii v_).h.k) (lv.getD ii v_) kp:=d1;have sq:=OS.nlen d1;refine ab (wTo 5 0 [] 136 140 [] [(137,(iI (a_-2))),(140,(.pointer (some ⟨sB (sL (hv.getD ii v_).h.a (hv.getD ii v_).h.n (hv.getD ii v_).h.k),sO (sL (hv.getD ii v_).h.a (hv.getD ii v_).h.n (hv.getD ii v_).h.k)+kk *Rp.sz VInT+2,none⟩)))] V fun _=>cL (bW (α:=VInT) (j:=kk) (off:=2) (q:=7) (⟨(⟨((lv.getD ii v_).getD kk v_).i.op,((lv.getD ii v_).getD kk v_).i.a,a_-2,((lv.getD ii v_).getD kk v_).i.c,((lv.getD ii v_).getD kk v_).i.n⟩:InsT),((lv.getD ii v_).getD kk v_).args⟩:VInT) d1 n7 V V V V V V V V (aO (x:=v_) M) V (by rintro cs ⟨ch,c5,rfl,ci,an,ap,aq,ar,co⟩;exact⟨a08 V,⟨ch,c5,V,ci,an,M,aq,ar,co⟩⟩)) V ?_);rintro _ sM t1 ⟨hD,oa,_⟩;have q7:=OS.len' hD;refine ae 0 V ?_;obtain⟨k4,ob,hr⟩:=SF.shut lf fR oa (q:=5) (m:=7) e_ V V hD;have rv:=FAM.len hr;exact a2 _ _ ⟨hv,lv.set ii ((lv.getD ii v_).set kk (⟨(⟨((lv.getD ii v_).getD kk v_).i.op,((lv.getD ii v_).getD kk v_).i.a,a_-2,((lv.getD ii v_).getD kk v_).i.c,((lv.getD ii v_).getD kk v_).i.n⟩:InsT),((lv.getD ii v_).getD kk v_).args⟩:VInT)),c.m,c.r,T,A,E,k4,_,fR,(HS.sub ob (a01 _ _)),N,hr,f_,M,M,(fun m hm=>by exact mA (e4 m hm) (a1z (fY (dG (e4 m hm)))))⟩
   refine wT 1 [] 141 143 [] [(141,(.bool (bb==9)))] V fun _=>zI 0 1 (fun py=>?_) fun py=>?_
   ·obtain⟨rF,kr,oc,d2,ll⟩:=SF.open a1 ay (q:=5) (i:=ii) V M;have d2:OS c7 (sL (hv.getD ii v_).h.a (hv.getD ii v_).h.n (hv.getD ii v_).h.k) (lv.getD ii v_) kr:=d2;have ss:=OS.nlen d2;refine ab (wTo 5 0 [] 144 148 [] [(145,(iI (a_-2))),(148,(.pointer (some ⟨sB (sL (hv.getD ii v_).h.a (hv.getD ii v_).h.n (hv.getD ii v_).h.k),sO (sL (hv.getD ii v_).h.a (hv.getD ii v_).h.n (hv.getD ii v_).h.k)+kk *Rp.sz VInT+3,none⟩)))] V fun _=>cL (bW (α:=VInT) (j:=kk) (off:=3) (q:=7) (⟨(⟨((lv.getD ii v_).getD kk v_).i.op,((lv.getD ii v_).getD kk v_).i.a,((lv.getD ii v_).getD kk v_).i.b,a_-2,((lv.getD ii v_).getD kk v_).i.n⟩:InsT),((lv.getD ii v_).getD kk v_).args⟩:VInT) d2 oc V V V V V V V V (aO (x:=v_) M) V (by rintro cs ⟨ch,c5,rfl,ci,an,ap,aq,ar,co⟩;exact⟨a08 V,⟨ch,c5,V,ci,an,ap,M,ar,co⟩⟩)) V ?_);rintro _ sN t2 ⟨hE,oh,_⟩;have q8:=OS.len' hE;refine ae 0 V ?_;obtain⟨k5,ol,ht⟩:=SF.shut ll fR oh (q:=5) (m:=7) e_ V V hE;have rx:=FAM.len ht;exact a2 _ _ ⟨hv,lv.set ii ((lv.getD ii v_).set kk (⟨(⟨((lv.getD ii v_).getD kk v_).i.op,((lv.getD ii v_).getD kk v_).i.a,((lv.getD ii v_).getD kk v_).i.b,a_-2,((lv.getD ii v_).getD kk v_).i.n⟩:InsT),((lv.getD ii v_).getD kk v_).args⟩:VInT)),c.m,c.r,T,A,E,k5,_,fR,(HS.sub ol (a01 _ _)),N,ht,f_,M,M,(fun m hm=>by exact mA (e4 m hm) (a1z (fY (dG (e4 m hm)))))⟩
   refine wT 1 [] 149 151 [] [(149,(.bool (bb==10)))] V fun _=>zI 0 1 (fun pz=>?_) fun pz=>?_
   ·obtain⟨rG,kx,hO,cc,lr⟩:=SF.open a1 ay (q:=5) (i:=ii) V M;have cc:OS c7 (sL (hv.getD ii v_).h.a (hv.getD ii v_).h.n (hv.getD ii v_).h.k) (lv.getD ii v_) kx:=cc;have su:=OS.nlen cc;refine ab (wTo 2 0 [] 152 153 [] [(152,(.pointer (some ⟨sB (sL (hv.getD ii v_).h.a (hv.getD ii v_).h.n (hv.getD ii v_).h.k),sO (sL (hv.getD ii v_).h.a (hv.getD ii v_).h.n (hv.getD ii v_).h.k)+kk *Rp.sz VInT,none⟩))),(153,(iI (a_-2)))] V fun _=>zc (m4.word_c ex (a_-2) (1099511627776) (HS.call hO) M M hT) ?_);rintro _ sP ⟨kc,sx,dn,g3,rfl,tM⟩;replace g3:=HS.back hO V g3;replace cc:=cc.mono dn;replace N:=N.mono dn;refine wTo 3 3 [] 155 157 [] [(157,(.pointer (some ⟨sB (sL (hv.getD ii v_).h.a (hv.getD ii v_).h.n (hv.getD ii v_).h.k),sO (sL (hv.getD ii v_).h.a (hv.getD ii v_).h.n (hv.getD ii v_).h.k)+kk *Rp.sz VInT+4,none⟩)))] V fun _=>cL (bW (α:=VInT) (j:=kk) (off:=4) (q:=7) (⟨(⟨((lv.getD ii v_).getD kk v_).i.op,((lv.getD ii v_).getD kk v_).i.a,((lv.getD ii v_).getD kk v_).i.b,((lv.getD ii v_).getD kk v_).i.c,kc⟩:InsT),((lv.getD ii v_).getD kk v_).args⟩:VInT) cc g3 V V V V V V V V (aO (x:=v_) M) V (by rintro cs ⟨ch,c5,rfl,ci,an,ap,aq,ar,co⟩;exact⟨a08 V,⟨ch,c5,V,ci,an,ap,aq,M,co⟩⟩)) V ?_
    rintro _ sQ t3 ⟨hF,oo,_⟩;have q9:=OS.len' hF;refine ae 0 V ?_;obtain⟨k6,ow,hu⟩:=SF.shut lr (dn) oo (q:=5) (m:=7) e_ V V hF;have ry:=FAM.len hu;exact a2 _ _ ⟨hv,lv.set ii ((lv.getD ii v_).set kk (⟨(⟨((lv.getD ii v_).getD kk v_).i.op,((lv.getD ii v_).getD kk v_).i.a,((lv.getD ii v_).getD kk v_).i.b,((lv.getD ii v_).getD kk v_).i.c,kc⟩:InsT),((lv.getD ii v_).getD kk v_).args⟩:VInT)),c.m,c.r,T,A,E,k6,_,(dn),(HS.sub ow (a01 _ _)),N,hu,f_,M,M,(fun m hm=>by exact mA (e4 m hm) (a1z (fY (dG (e4 m hm)))))⟩
   refine wT 1 [] 158 160 [] [(158,(.bool (bb==11)))] V fun _=>zI 0 1 (fun pA=>?_) fun pA=>?_
   ·obtain⟨rH,ky,hP,bl,lz⟩:=SF.open a1 ay (q:=5) (i:=ii) V M;have bl:OS c7 (sL (hv.getD ii v_).h.a (hv.getD ii v_).h.n (hv.getD ii v_).h.k) (lv.getD ii v_) ky:=bl;have sw:=OS.nlen bl;refine ab ?_;obtain⟨dl,h1⟩:=Sv.view (OS.sv bl hP (i:=7) V);obtain⟨qZ,q0,q1,q2,q3,kd⟩:=VInT.fx (h1 kk);refine wUo 5 0 [(4,.o (sL (cA (dl kk) 5) ((lv.getD ii v_).getD kk v_).args.length (cK (dl kk) 5)))] 161 165 [] [(161,(.pointer (some ⟨sB (sL (hv.getD ii v_).h.a (hv.getD ii v_).h.n (hv.getD ii v_).h.k),sO (sL (hv.getD ii v_).h.a (hv.getD ii v_).h.n (hv.getD ii v_).h.k)+kk *Rp.sz VInT,none⟩))),(165,(sL (cA (dl kk) 5) ((lv.getD ii v_).getD kk v_).args.length (cK (dl kk) 5)))] (ql 22 5 (VInT.vw (h1 kk)) V V) V fun _=>?_
    have hQ:=HS.snoc hP;refine zao 8 (OS.nil:OS c7 (sL none 0 0) ([]:List Int) []) hQ (SR.sv kd hQ) V V V (by(simp only[a02,a04,a07];first|omega|(have hq:=fY (i:=kk) (dG (i:=ii) e2);omega))) fun pj qw qB sR f9 ox=>?_
    have f9:OS c7 (sL pj ((lv.getD ii v_).getD kk v_).args.length qw) ((lv.getD ii v_).getD kk v_).args qB:=f9;refine zm (iI (a_-2)) (zlo ([a_-2]:List Int) ox V (RL.cs ⟨V,M⟩ RL.nl) V fun tn tT t4 sS mx hR=>zao 8 f9 hR (OS.sv mx hR (i:=9) V) V V V (by(simp only[a02,a04,a07];first|omega|(have hq:=fY (i:=kk) (dG (i:=ii) e2);omega))) fun pm qx t5 sT mI oy=>wTo 2 9 [] 170 171 [] [(171,(.pointer (some ⟨sB (sL (hv.getD ii v_).h.a (hv.getD ii v_).h.n (hv.getD ii v_).h.k),sO (sL (hv.getD ii v_).h.a (hv.getD ii v_).h.n (hv.getD ii v_).h.k)+kk *Rp.sz VInT+5,none⟩)))] V fun _=>?_);obtain⟨sy,ds,oz,n1,sg⟩:=OS.frz mI oy (i:=8) V;replace bl:=bl.mono ds;replace N:=N.mono ds;refine cL (bW (α:=VInT) (j:=kk) (off:=5) (q:=7) (⟨(⟨((lv.getD ii v_).getD kk v_).i.op,((lv.getD ii v_).getD kk v_).i.a,((lv.getD ii v_).getD kk v_).i.b,((lv.getD ii v_).getD kk v_).i.c,((lv.getD ii v_).getD kk v_).i.n⟩:InsT),((lv.getD ii v_).getD kk v_).args++([a_-2]:List Int)⟩:VInT) bl oz V V V V V V V V (aO (x:=v_) M) V (by rintro cs ⟨ch,c5,rfl,ci,an,ap,aq,ar,co⟩;exact⟨a08 V,⟨pm,qx,V,ci,an,ap,aq,ar,n1⟩⟩)) V ?_;rintro _ sU t6 ⟨hG,oD,_⟩;have rc:=OS.len' hG;refine ae 0 V ?_;obtain⟨k7,oE,hw⟩:=SF.shut lz (ds) oD (q:=5) (m:=7) e_ V V hG;have rz:=FAM.len hw;exact a2 _ _ ⟨hv,lv.set ii ((lv.getD ii v_).set kk (⟨(⟨((lv.getD ii v_).getD kk v_).i.op,((lv.getD ii v_).getD kk v_).i.a,((lv.getD ii v_).getD kk v_).i.b,((lv.getD ii v_).getD kk v_).i.c,((lv.getD ii v_).getD kk v_).i.n⟩:InsT),((lv.getD ii v_).getD kk v_).args++([a_-2]:List Int)⟩:VInT)),c.m,c.r,T,A,E,k7,_,(ds),(HS.sub oE (a01 _ _)),N,hw,f_,M,M,(fun m hm=>by exact mA (e4 m hm) (ok_more (fY (dG (e4 m hm)))))⟩
   refine wT 1 [] 172 174 [] [(172,(.bool (bb==12)))] V fun _=>zI 0 0 (fun pB=>?_) fun pB=>?_
   ·refine ab (aS 8 0 175 182 [] [(176,(sL A hv.length E)),(182,(iI (if(if(hv.length:Int)<a_-2 then(hv.length:Int) else a_-2)>(0:Int) then(if(hv.length:Int)<a_-2 then(hv.length:Int) else a_-2) else(0:Int))))] (Hr_ 1 3 (Hr_ 4 3 Hn_)) ay V V fun _=>aT (rs_cutOt (α:=BlkH) (j:=(if(if(hv.length:Int)<a_-2 then(hv.length:Int) else a_-2)>(0:Int) then(if(hv.length:Int)<a_-2 then(hv.length:Int) else a_-2) else(0:Int)).toNat) N ay (q:=4) V V V V (optN M) M) V V ?_);rintro _ _ _ ⟨pn,qy,rfl,dt,nm⟩;simp only at dt;replace dt:=dt.symm;subst dt;obtain⟨k8,rI,kz,hz⟩:=FAM.take (if(if(hv.length:Int)<a_-2 then(hv.length:Int) else a_-2)>(0:Int) then(if(hv.length:Int)<a_-2 then(hv.length:Int) else a_-2) else(0:Int)).toNat a1;have oF:=HS.open ay (i:=5) V (List.Perm.of_eq kz);have rA:=FAM.len hz;refine sgo 2 9 184 184 [] [] (Hr_ 10 3 Hn_) oF V V fun rY sV oG=>ae 0 V ?_
    exact a2 _ _ ⟨hv.take (if(if(hv.length:Int)<a_-2 then(hv.length:Int) else a_-2)>(0:Int) then(if(hv.length:Int)<a_-2 then(hv.length:Int) else a_-2) else(0:Int)).toNat,lv.take (if(if(hv.length:Int)<a_-2 then(hv.length:Int) else a_-2)>(0:Int) then(if(hv.length:Int)<a_-2 then(hv.length:Int) else a_-2) else(0:Int)).toNat,c.m,c.r,T,pn,qy,k8,_,fR,(HS.sub oG (a01 _ _)),nm,hz,f_,M,(by(simp;omega)),(fun m hm=>by exact lm (fun y hy=>e4 m hm y (a1b hy)))⟩
   exact a2 _ _ ⟨hv,lv,c.m,c.r,T,A,E,c6,_,fR,ay,N,a1,f_,M,M,(fun m hm=>by exact lm (e4 m hm))⟩
  skip;rintro ux um ⟨a7,dd,pq,rq,b8,a8,a9,fi,ua,pZ,qg,b7,g8,h9,j0,j1,j2⟩;refine au _ h9 (fun _=>?_);clear h9;have qK:=FAM.len g8;refine am 3 V (sgr 1 185 185 [] [] (Hr_ 0 3 (Hr_ 1 1 Hn_)) qg V V fun r0 sW oH=>?_);obtain⟨sC,hj,oI,l1⟩:=SF.freeze g8 oH (q:=5) V;replace b7:=b7.mono hj;obtain⟨sD,hk,hS,n2,sk⟩:=OS.frz b7 oI (i:=4) V;have hL:=blkH_rows n2 M (fun i hi=>SR.mono hk (l1 i hi));have o5:=SR.len' hL;have iz:=SR.norm hL;refine ak ⟨.inr V,_,(rC V (l7 V V (i_ hS V) V) rN),(⟨pq,rq,(blkZ a7 dd)⟩:VFnT),a8,a9,_,(fT (fT (fT (fT (fT (et) ez) e0) pZ) hj) hk),(HS.forget hS),(by simp only[o5];rfl),M,M,iz,(a0e blkZ_len j1),(fun m hm=>blkZ_ok (j2 m hm))⟩
 refine ab (wTo 1 0 [] 72 72 [] [(72,(aG [(iI 0),(iI 0),(iI 0),(iI 0),(iI 0),(sL none 0 0)]))] V fun _=>aT (aN e5 V V) V V ?_);rintro _ sX _ ⟨f2,rfl,hV,_⟩;refine za (pT f2 0) (ae 2 V (ab (zm (pT b6 0) (zc (m4.cR ex (⟨fz⟩:DigT) (40) (HS.callOwn hV (i:=2) V) M M hT M) ?_))));rintro _ sY ⟨U,kn,sE,c8,em,rfl,qL,tN⟩;replace em:=hV.bO em;replace hT:=hT.mono c8;refine wUo 2 2 [] 76 76 [13] [(13,(iI (U-2)))] (vi (n:=U-2)) V fun _=>ae 3 V (ab (zm (pT b6 0) (zc (m4.cR ex (⟨kn.n⟩:DigT) (14) (HS.callOwn em (i:=2) V) M M hT M) ?_)))
 rintro _ sZ ⟨a3,ko,av,c9,g4,rfl,qM,tO⟩;replace g4:=em.bO g4;replace hT:=hT.mono c9;replace bk:=(bk.mono c8).mono c9;replace N:=(N.mono c8).mono c9;refine za (iI a3) (ae 3 V (wT 1 [] 79 81 [] [(79,(.bool (a3==0)))] V fun _=>?_));obtain⟨ax,aa,Z⟩:=SF.shut0 h6 (fT (c8) c9) g4 (q:=5) (m:=6) e_ V V bk;have rB:=FAM.len Z;refine ba (fun f H'=> ∃(a7:List BlkH) (dd:List (List VInT)) (pq:Int) (rq:Int) (pc:Int) (pd:Int) (pe:Int) (pf:Int) (pg:Int) (bva:List Int) (b5:Fp) (a4:Option Addr) (a5:Nat) (bz:Option Addr) (b4:Nat) (dk:Fp) (F':Fz),av.le F'/\HS (Base.of H []) F' H' [kg,ki,(fP b6 [(iI ko.n)]),(fP b9 [(iI pq),(iI rq),(sL a4 a7.length a5)]),b5,dk,[],(fP f2 [(iI pc),(iI pd),(iI pe),(iI pf),(iI pg),(sL bz bva.length b4)])] R/\OS F' (sL a4 a7.length a5) a7 b5/\SR F' (sL bz bva.length b4) bva/\SF F' a7 dd dk/\aA f [(6,(pT b3 0)),(8,(pT b9 0))]/\(in64 pq/\in64 rq)/\(a7.length<=c.u.length)/\(∀m,(∀j,okI m (c.u.getD j v_).v)->∀y∈dd,okI (m+1) y)) (fun ag=>?_) ?_
 ·refine zI 0 1 (fun pC=>?_) fun pC=>?_
  ·refine sgr 0 82 83 [] [] (Hr_ 2 3 Hn_) aa V V fun r1 s1 oK=>?_
   exact ag _ _ ⟨hv,lv,U-2,c.r,0,0,0,0,0,([]:List Int),T,A,E,none,0,ax,_,fR,oK,N,(SR.nil:SR av (sL none 0 0) ([]:List Int)),Z,f_,M,M,(fun m hm=>by exact lm (e4 m hm))⟩
  refine wT 1 [] 84 86 [] [(84,(.bool (a3==1)))] V fun _=>zI 0 1 (fun pD=>?_) fun pD=>?_
  ·refine sgr 0 87 88 [] [] (Hr_ 2 3 Hn_) aa V V fun r2 s2 oL=>?_
   exact ag _ _ ⟨hv,lv,c.m,U-2,0,0,0,0,0,([]:List Int),T,A,E,none,0,ax,_,fR,oL,N,(SR.nil:SR av (sL none 0 0) ([]:List Int)),Z,f_,M,M,(fun m hm=>by exact lm (e4 m hm))⟩
  refine wT 1 [] 89 91 [] [(89,(.bool (a3==2)))] V fun _=>zI 0 1 (fun pE=>?_) fun pE=>?_
  ·refine ab (bK 4 0 92 95 [] [(93,(iI (U-2))),(95,(.pointer (some ⟨sB (sL A hv.length E),sO (sL A hv.length E)+ii *Rp.sz BlkH+1,none⟩)))] Hn_ K_ V fun _=>?_);have l3:=SF.put (⟨(hv.getD ii v_).h,U-2,(hv.getD ii v_).r,(hv.getD ii v_).t,(hv.getD ii v_).e⟩:BlkH) Z (i:=ii) V;refine cL (bW (α:=BlkH) (j:=ii) (off:=1) (q:=4) (⟨(hv.getD ii v_).h,U-2,(hv.getD ii v_).r,(hv.getD ii v_).t,(hv.getD ii v_).e⟩:BlkH) N aa V V V V V V V V (aO (x:=v_) M) V (by rintro cs ⟨rfl,an,ap,aq,ar⟩;exact⟨a08 V,⟨V,M,ap,aq,ar⟩⟩)) V ?_;rintro _ s3 qC ⟨hH,oM,_⟩;have re:=OS.len' hH;refine ae 0 V ?_;exact ag _ _ ⟨hv.set ii (⟨(hv.getD ii v_).h,U-2,(hv.getD ii v_).r,(hv.getD ii v_).t,(hv.getD ii v_).e⟩:BlkH),lv,c.m,c.r,0,0,0,0,0,([]:List Int),qC,A,E,none,0,ax,_,fR,(by(simp only[a0f];exact oM)),(OS.norm hH),(SR.nil:SR av (sL none 0 0) ([]:List Int)),l3,f_,M,M,(fun m hm=>by exact lm (e4 m hm))⟩
  refine wT 1 [] 96 98 [] [(96,(.bool (a3==3)))] V fun _=>zI 0 1 (fun pF=>?_) fun pF=>?_
  ·refine ab (bK 4 0 99 102 [] [(100,(iI (U-2))),(102,(.pointer (some ⟨sB (sL A hv.length E),sO (sL A hv.length E)+ii *Rp.sz BlkH+2,none⟩)))] Hn_ K_ V fun _=>?_);have l4:=SF.put (⟨(hv.getD ii v_).h,(hv.getD ii v_).f,U-2,(hv.getD ii v_).t,(hv.getD ii v_).e⟩:BlkH) Z (i:=ii) V;refine cL (bW (α:=BlkH) (j:=ii) (off:=2) (q:=4) (⟨(hv.getD ii v_).h,(hv.getD ii v_).f,U-2,(hv.getD ii v_).t,(hv.getD ii v_).e⟩:BlkH) N aa V V V V V V V V (aO (x:=v_) M) V (by rintro cs ⟨rfl,an,ap,aq,ar⟩;exact⟨a08 V,⟨V,an,M,aq,ar⟩⟩)) V ?_;rintro _ s4 qD ⟨hI,oO,_⟩;have rf:=OS.len' hI;refine ae 0 V ?_;exact ag _ _ ⟨hv.set ii (⟨(hv.getD ii v_).h,(hv.getD ii v_).f,U-2,(hv.getD ii v_).t,(hv.getD ii v_).e⟩:BlkH),lv,c.m,c.r,0,0,0,0,0,([]:List Int),qD,A,E,none,0,ax,_,fR,(by(simp only[a0f];exact oO)),(OS.norm hI),(SR.nil:SR av (sL none 0 0) ([]:List Int)),l4,f_,M,M,(fun m hm=>by exact lm (e4 m hm))⟩
  refine wT 1 [] 103 105 [] [(103,(.bool (a3==4)))] V fun _=>zI 0 1 (fun pG=>?_) fun pG=>?_
  ·refine ab (bK 4 0 106 109 [] [(107,(iI (U-2))),(109,(.pointer (some ⟨sB (sL A hv.length E),sO (sL A hv.length E)+ii *Rp.sz BlkH+3,none⟩)))] Hn_ K_ V fun _=>?_);have l9:=SF.put (⟨(hv.getD ii v_).h,(hv.getD ii v_).f,(hv.getD ii v_).r,U-2,(hv.getD ii v_).e⟩:BlkH) Z (i:=ii) V;refine cL (bW (α:=BlkH) (j:=ii) (off:=3) (q:=4) (⟨(hv.getD ii v_).h,(hv.getD ii v_).f,(hv.getD ii v_).r,U-2,(hv.getD ii v_).e⟩:BlkH) N aa V V V V V V V V (aO (x:=v_) M) V (by rintro cs ⟨rfl,an,ap,aq,ar⟩;exact⟨a08 V,⟨V,an,ap,M,ar⟩⟩)) V ?_;rintro _ s5 qE ⟨hJ,oP,_⟩;have rg:=OS.len' hJ;refine ae 0 V ?_;exact ag _ _ ⟨hv.set ii (⟨(hv.getD ii v_).h,(hv.getD ii v_).f,(hv.getD ii v_).r,U-2,(hv.getD ii v_).e⟩:BlkH),lv,c.m,c.r,0,0,0,0,0,([]:List Int),qE,A,E,none,0,ax,_,fR,(by(simp only[a0f];exact oP)),(OS.norm hJ),(SR.nil:SR av (sL none 0 0) ([]:List Int)),l9,f_,M,M,(fun m hm=>by exact lm (e4 m hm))⟩
  refine wT 1 [] 110 112 [] [(110,(.bool (a3==5)))] V fun _=>zI 0 1 (fun pH=>?_) fun pH=>?_
  ·refine ab (bK 4 0 113 116 [] [(114,(iI (U-2))),(116,(.pointer (some ⟨sB (sL A hv.length E),sO (sL A hv.length E)+ii *Rp.sz BlkH+4,none⟩)))] Hn_ K_ V fun _=>?_);have mk:=SF.put (⟨(hv.getD ii v_).h,(hv.getD ii v_).f,(hv.getD ii v_).r,(hv.getD ii v_).t,U-2⟩:BlkH) Z (i:=ii) V;refine cL (bW (α:=BlkH) (j:=ii) (off:=4) (q:=4) (⟨(hv.getD ii v_).h,(hv.getD ii v_).f,(hv.getD ii v_).r,(hv.getD ii v_).t,U-2⟩:BlkH) N aa V V V V V V V V (aO (x:=v_) M) V (by rintro cs ⟨rfl,an,ap,aq,ar⟩;exact⟨a08 V,⟨V,an,ap,aq,M⟩⟩)) V ?_;rintro _ s6 qF ⟨hK,oQ,_⟩;have rh:=OS.len' hK;refine ae 0 V ?_;exact ag _ _ ⟨hv.set ii (⟨(hv.getD ii v_).h,(hv.getD ii v_).f,(hv.getD ii v_).r,(hv.getD ii v_).t,U-2⟩:BlkH),lv,c.m,c.r,0,0,0,0,0,([]:List Int),qF,A,E,none,0,ax,_,fR,(by(simp only[a0f];exact oQ)),(OS.norm hK),(SR.nil:SR av (sL none 0 0) ([]:List Int)),mk,f_,M,M,(fun m hm=>by exact lm (e4 m hm))⟩
  refine wT 1 [] 117 119 [] [(117,(.bool (a3==6)))] V fun _=>zI 0 1 (fun pI=>?_) fun pI=>?_
  ·refine sgr 0 120 124 [] [] (Hr_ 5 7 Hn_) aa V V fun r3 s7 oR=>?_
   exact ag _ _ ⟨hv,lv,c.m,c.r,U-2,0,0,0,0,([]:List Int),T,A,E,none,0,ax,_,fR,oR,N,(SR.nil:SR av (sL none 0 0) ([]:List Int)),Z,f_,M,M,(fun m hm=>by exact lm (e4 m hm))⟩
  refine wT 1 [] 125 127 [] [(125,(.bool (a3==7)))] V fun _=>zI 0 1 (fun pJ=>?_) fun pJ=>?_
  ·refine sgr 0 128 132 [] [] (Hr_ 5 7 Hn_) aa V V fun r4 s8 oT=>?_
   exact ag _ _ ⟨hv,lv,c.m,c.r,0,U-2,0,0,0,([]:List Int),T,A,E,none,0,ax,_,fR,oT,N,(SR.nil:SR av (sL none 0 0) ([]:List Int)),Z,f_,M,M,(fun m hm=>by exact lm (e4 m hm))⟩
  refine wT 1 [] 133 135 [] [(133,(.bool (a3==8)))] V fun _=>zI 0 1 (fun pK=>?_) fun pK=>?_
  ·refine sgr 0 136 140 [] [] (Hr_ 5 7 Hn_) aa V V fun r5 s9 oU=>?_
   exact ag _ _ ⟨hv,lv,c.m,c.r,0,0,U-2,0,0,([]:List Int),T,A,E,none,0,ax,_,fR,oU,N,(SR.nil:SR av (sL none 0 0) ([]:List Int)),Z,f_,M,M,(fun m hm=>by exact lm (e4 m hm))⟩
  refine wT 1 [] 141 143 [] [(141,(.bool (a3==9)))] V fun _=>zI 0 1 (fun pL=>?_) fun pL=>?_
  ·refine sgr 0 144 148 [] [] (Hr_ 5 7 Hn_) aa V V fun r6 tc oV=>?_
   exact ag _ _ ⟨hv,lv,c.m,c.r,0,0,0,U-2,0,([]:List Int),T,A,E,none,0,ax,_,fR,oV,N,(SR.nil:SR av (sL none 0 0) ([]:List Int)),Z,f_,M,M,(fun m hm=>by exact lm (e4 m hm))⟩
  refine wT 1 [] 149 151 [] [(149,(.bool (a3==10)))] V fun _=>zI 0 1 (fun pM=>?_) fun pM=>?_
  ·refine ab (bK 2 0 152 153 [] [(152,(pT f2 0)),(153,(iI (U-2)))] Hn_ K_ V fun _=>zc (m4.word_c ex (U-2) (1099511627776) (HS.call aa) M M hT) ?_);rintro _ td ⟨qI,pi,f5,g5,rfl,tP⟩;replace g5:=HS.back aa V g5;replace N:=N.mono f5;replace Z:=SF.mono f5 Z;refine sgo 4 3 155 157 [] [] (Hr_ 6 7 Hn_) g5 V V fun r7 te oW=>ae 0 V ?_
   exact ag _ _ ⟨hv,lv,c.m,c.r,0,0,0,0,qI,([]:List Int),T,A,E,none,0,ax,_,(f5),oW,N,(SR.nil:SR pi (sL none 0 0) ([]:List Int)),Z,f_,M,M,(fun m hm=>by exact lm (e4 m hm))⟩
  refine wT 1 [] 158 160 [] [(158,(.bool (a3==11)))] V fun _=>zI 0 1 (fun pN=>?_) fun pN=>?_
  ·refine ab (aS 5 0 161 165 [] [(161,(pT f2 0)),(165,(sL none 0 0))] (Hr_ 4 7 Hn_) aa V V fun _=>?_);have hW:=HS.snoc aa;refine zao 8 (OS.nil:OS av (sL none 0 0) ([]:List Int) []) hW (SR.sv (SR.nil:SR av _ (([]:List Int))) hW) V V V (by(simp only[a02,a04,a07];first|omega|(have hq:=fY (i:=kk) (dG (i:=ii) e2);omega))) fun pu qz qG tf go oX=>?_
   have go:OS av (sL pu ([]:List Int).length qz) ([]:List Int) qG:=go;refine zm (iI (U-2)) (zlo ([U-2]:List Int) oX V (RL.cs ⟨V,M⟩ RL.nl) V fun tq tU t7 tg m0 hX=>zao 8 go hX (OS.sv m0 hX (i:=9) V) V V V (by(simp only[a02,a04,a07];first|omega|(have hq:=fY (i:=kk) (dG (i:=ii) e2);omega))) fun h3 jw qH th gt oY=>?_);have gt:OS av (sL h3 ([U-2]:List Int).length jw) ([U-2]:List Int) qH:=gt;refine sgo 3 9 170 171 [] [] (Hr_ 11 7 Hn_) oY V V fun r8 ti oZ=>ae 0 V ?_
   obtain⟨sG,f6,o0,n3,sn⟩:=OS.frz gt oZ (i:=8) V;replace N:=N.mono f6;replace Z:=SF.mono f6 Z;exact ag _ _ ⟨hv,lv,c.m,c.r,0,0,0,0,0,([U-2]:List Int),T,A,E,h3,jw,ax,_,(f6),(HS.sub o0 (a01 _ _)),N,n3,Z,f_,M,M,(fun m hm=>by exact lm (e4 m hm))⟩
  refine wT 1 [] 172 174 [] [(172,(.bool (a3==12)))] V fun _=>zI 0 0 (fun pO=>?_) fun pO=>?_
  ·refine ab (aS 8 0 175 182 [] [(176,(sL A hv.length E)),(182,(iI (if(if(hv.length:Int)<U-2 then(hv.length:Int) else U-2)>(0:Int) then(if(hv.length:Int)<U-2 then(hv.length:Int) else U-2) else(0:Int))))] (Hr_ 1 3 (Hr_ 4 3 Hn_)) aa V V fun _=>aT (rs_cutOt (α:=BlkH) (j:=(if(if(hv.length:Int)<U-2 then(hv.length:Int) else U-2)>(0:Int) then(if(hv.length:Int)<U-2 then(hv.length:Int) else U-2) else(0:Int)).toNat) N aa (q:=4) V V V V (optN M) M) V V ?_);rintro _ _ _ ⟨pw,qA,rfl,dv,nx⟩;simp only at dv;replace dv:=dv.symm;subst dv;obtain⟨k9,rJ,k0,hB⟩:=FAM.take (if(if(hv.length:Int)<U-2 then(hv.length:Int) else U-2)>(0:Int) then(if(hv.length:Int)<U-2 then(hv.length:Int) else U-2) else(0:Int)).toNat Z;have o1:=HS.open aa (i:=5) V (List.Perm.of_eq k0);have rD:=FAM.len hB;refine sgo 2 9 184 184 [] [] (Hr_ 10 3 Hn_) o1 V V fun r9 tj o2=>ae 0 V ?_
   exact ag _ _ ⟨hv.take (if(if(hv.length:Int)<U-2 then(hv.length:Int) else U-2)>(0:Int) then(if(hv.length:Int)<U-2 then(hv.length:Int) else U-2) else(0:Int)).toNat,lv.take (if(if(hv.length:Int)<U-2 then(hv.length:Int) else U-2)>(0:Int) then(if(hv.length:Int)<U-2 then(hv.length:Int) else U-2) else(0:Int)).toNat,c.m,c.r,0,0,0,0,0,([]:List Int),T,pw,qA,none,0,k9,_,fR,(HS.sub o2 (a01 _ _)),nx,(SR.nil:SR av (sL none 0 0) ([]:List Int)),hB,f_,M,(by(simp;omega)),(fun m hm=>by exact lm (fun y hy=>e4 m hm y (a1b hy)))⟩
  exact ag _ _ ⟨hv,lv,c.m,c.r,0,0,0,0,0,([]:List Int),T,A,E,none,0,ax,_,fR,aa,N,(SR.nil:SR av (sL none 0 0) ([]:List Int)),Z,f_,M,M,(fun m hm=>by exact lm (e4 m hm))⟩
 skip;rintro tu s0 ⟨a7,dd,pq,rq,pc,pd,pe,pf,pg,bva,b5,a4,a5,bz,b4,dk,sF,l0,oJ,b2,o7,f1,hA,j0,j1,j2⟩;refine au _ hA (fun _=>?_);clear hA;have pV:=FAM.len f1;refine am 3 V (sgr 1 185 185 [] [] (Hr_ 0 3 (Hr_ 1 1 Hn_)) oJ V V fun sa tl o3=>?_);obtain⟨sH,hl,o4,l2⟩:=SF.freeze f1 o3 (q:=5) V;replace b2:=b2.mono hl;obtain⟨sI,hn,hY,n4,sp⟩:=OS.frz b2 o4 (i:=4) V;have hM:=blkH_rows n4 M (fun i hi=>SR.mono hn (l2 i hi));have o6:=SR.len' hM;have i1:=SR.norm hM;refine ak ⟨.inr V,_,(rC V (l7 V V (i_ hY V) V) rN),(⟨pq,rq,(blkZ a7 dd)⟩:VFnT),a4,a5,_,(fT (fT (fT (fT (fT (et) c8) c9) l0) hl) hn),(HS.forget hY),(by simp only[o6];rfl),M,M,i1,(a0e blkZ_len j1),(fun m hm=>blkZ_ok (j2 m hm))⟩
end m9
open m9
namespace el
variable (ex:FuncId) {F:Fz} {H:Heap} {R:List Fp}
theorem vfG.oki{x}{n:Int}(h:vfG x n)(j:Nat):okI 6 (x.u.getD j v_).v:=by
 refine⟨a0e (h.v j) M,fun z T=>?_⟩;have N:=h.val;unfold cb at N;rw[a0a]at N;rcases a0k j x.u.length with hj|hj
 ·have E:=lS N.2 hj;unfold jZ at E;rw[a0a]at E;have A:=a0t.1 E.1 z T;unfold eV at A;simp only[a0a,decide_eq_true_eq]at A;omega
 rw[bZ hj]at T;cases T
theorem oki_up{m n y}(h:okI m y)(A:m<=n):okI n y:=⟨h.1,fun z E=>a0e (h.2 z E) A⟩
theorem ixR{b}{j:Int}(h:0<=j/\j<2):IX (sL (some ⟨b,0,none⟩) 2 2) j:=⟨b,0,2,2,V,h.1,h.2,a0d _⟩
theorem sh_vf{x}{n:Int}(h:vfG x n):ShF x:=⟨h.nb.2,fun b A=>by
 obtain⟨k,E,rfl⟩:=a0x.1 A;have:=h.v k;rwa [a03,a06 E]at this⟩
theorem sh_ok{c x}{n:Int}(N:vfG c n)(A:x.u.length<=c.u.length)(E: ∀m,(∀j,okI m (c.u.getD j v_).v)->∀j,okI (m+1) (x.u.getD j v_).v):ShF x:=⟨a0e A N.nb.2,fun b T=>by
 obtain⟨k,U,rfl⟩:=a0x.1 T;have:=(E 6 (fun j=>vfG.oki N j) k).1;rwa [a03,a06 U]at this⟩
abbrev PG2(p:List VFnT):Prop:=p.length=2/\vfG (p.getD 0 v_) 2/\vfG (p.getD 1 v_) 1
theorem p2_all{p}(h:PG2 p): ∀k,k<p.length->∃n:Int,n<=2/\vfG (p.getD k v_) n:=fun k A=>by
 have h0:=h.1;have:k=0\/k=1:=M
 rcases this with rfl|rfl
 ·exact⟨2,by decide,h.2.1⟩
 exact⟨1,by decide,h.2.2⟩
theorem p2_sh{p}(h:PG2 p): ∀c∈p,ShF c:=fun c hc=>by obtain⟨k,A,rfl⟩:=a0x.1 hc;obtain⟨n,_,E⟩:=p2_all h k A;have:=sh_vf E;rwa [a03,a06 A]at this
theorem set_sh{p:List VFnT}{x:VFnT}{k:Nat}(h: ∀c∈p,ShF c)(A:ShF x): ∀c∈p.set k x,ShF c:=fun c hc=>(a1H hc).elim (h c) fun e=>e▸A
theorem sh_at{p q:List VFnT}(h: ∀c∈p,ShF c)(A: ∀c∈q,ShF c)(j:Nat): ∀c∈[p,q].getD j v_,ShF c:=by
 rw[a03];rcases e:[p,q][j]? with _|x
 ·exact fun c hc=>by cases hc
 have:=a0m e;simp only[a0w,a0g,or_false]at this;rcases this with rfl|rfl
 ·exact h
 exact A
theorem getD_or{α:Type}(l:List α)(k:Nat)(d:α):l.getD k d=d\/l.getD k d∈l:=by
 rw[a03];rcases e:l[k]? with _|x
 ·exact .inl V
 exact .inr (a0m e)
theorem sh_bd{l:List VFnT}(h: ∀c∈l,ShF c)(k j:Nat):((l.getD k v_).u.getD j v_).v.length<=1000:=by
 rcases getD_or l k v_ with e|e
 ·rw[e];cases j<;>exact a0r _
 have hc:=(h _ e).i;rcases getD_or (l.getD k v_).u j v_ with A|A
 ·rw[A];exact a0r _
 exact a0e (hc _ A) e_
theorem ln_at{z}(h:z.length<=1000)(j:Nat):(([[3,2],z]:List (List Int)).getD j v_).length<=1073741824:=by
 rcases getD_or ([[3,2],z]:List (List Int)) j v_ with e|e
 ·rw[e];exact a0r _
 simp only[a0w,a0g,or_false]at e;rcases e with e|e<;>rw[e]
 ·decide
 omega
theorem ex_c(_:FuncId)(hs:Hb H F H [] R)(A:TB 37 tabC F):C Tryz.prog 1 (KT 60 17 37 tabC) 17 [] H fun v H'=> ∃(r:Bool),H'=H/\v= .bool r/\r=true:=
 ⟨0,.bool true,H,by unfold call me;rw[(A.heap hs).known e_],true,V,V,V⟩
theorem ex_c_q(e:FuncId)(hs:Hb H F H [] R)(A:TB 37 tabC F):C Tryz.prog 1 (KT 60 17 37 tabC) 17 [] H fun v H'=>v= .bool true/\H'=H:=cq (ex_c e hs A) (by rintro _ _ ⟨_,rfl,rfl,rfl⟩;exact⟨V,V⟩)
theorem emit_law{po qO}(l:List Int){p3 qP}(m:List Int){cv c0}(ck:List Int)(ar:Int)(ad:Int){a0 a5}(lens:List Int)(hs:Hb H F H [] R)(hl:Sr F po l qO)(hm:Sr F p3 m qP)(b0:Sr F cv ck c0)(rK:in64 ar)(rJ:in64 ad)(a6:Sr F a0 lens a5)(hT:TB 37 tabC F):C Tryz.prog 1 (KT 60 17 37 tabC) 3 [(sL po l.length qO),(sL p3 m.length qP),(sL cv ck.length c0),ar,ad,(sL a0 lens.length a5)] H fun v H'=> ∃(z:Bool),∃F',F.le F'/\Hb H F' H' [] R/\v= .bool z/\z=true:=by
 refine aB Tryz.func3 V V (am 1 V (wT 2 [] 12 12 [] [(12,false)] V fun _=>ab (wTo 2 0 [] 33 34 [] [(33,(sL po l.length qO)),(34,(sL p3 m.length qP))] V fun _=>zc (m6.vfuncs_c 17 l m (HS.call hs) hl hm hT) ?_)));rintro _ H3 ⟨b6,b8,a_,d1,em,q3,F3,hA,hC,rfl,Z,a4,rfl,h3⟩;replace hC:=HS.back hs V hC;replace hT:=hT.mono hA;refine wTo 5 3 [] 36 37 [13,14,32] [(13,(sL b6 a_.length b8)),(14,(sL d1 [3,2].length em))] V fun _=>ae 2 V ?_
 have hP:PG2 a_:=by assumption
 have sp:=hP.1;have hn:=hP.2.1;have mx:=hP.2.2;have qH:=hn.nb;refine ab (zm (sL b6 a_.length b8) (zc (en.allocs_c 17 a_ (HS.call hC) Z hT (p2_all hP) M) ?_));rintro _ H5 ⟨f1,f3,E,g5,F5,f2,d2,rfl,ap,rfl,h5,qG⟩;replace d2:=HS.back hC V d2;replace hT:=hT.mono f2;replace b0:=(b0.mono hA).mono f2;replace Z:=Z.mono f2;refine wTo 5 2 [] 41 42 [15,16,38] [(15,(sL f1 E.length f3)),(16,true)] V fun _=>ae 3 V (wT 1 [] 43 44 [] [(44,false)] V fun _=>dy 2 (v:=false) V V V V ?_)
 have sm:E.length=2:=M
 have sn:=(by assumption: ∀q,(E.getD q v_).l.length<=100000) 0;refine aC V ?_;obtain⟨mk,mI⟩:=Sv.view (SR.sv Z d2);obtain⟨pN,pO,oR⟩:=VFnT.fx (mI 0);refine cN 4 45 48 [] [(47,(aG [(a_.getD 0 v_).m,(a_.getD 0 v_).r,(sL (cA (mk 0) 2) (a_.getD 0 v_).u.length (cK (mk 0) 2))])),(48,(sL cv ck.length c0))] (Ha_ (Sv.ix (j:=0) (SR.sv Z d2)) (Hl_ 2 (qn 36 0 3 (hc0 (VFnT.vw (mI 0))) V V V V) Hn_)) d2 V V fun _=>aQ (W:=[]) (aP V V V) V V V (nw.loose_c 17 (a_.getD 0 v_) ck (HS.call d2.log0) M M oR b0 hT (fun j=>a0e (hn.v j) M) (hn.val)) (kb V) ?_
 rintro _ o0 ⟨N,h6,k0,h7,k3,p7,b9,aq,rfl,oT,dt,dv,pR⟩;refine⟨Wr.did aq.log,fun oM k7=>?_⟩;replace aq:=HS.back d2.log0 V aq;replace aq:=HS.lg aq d2 k7;generalize ({o0 with log:=oM}:Heap)=pD at aq⊢;replace hT:=hT.mono b9;replace b0:=b0.mono b9;replace Z:=Z.mono b9;obtain⟨ib,i5⟩:=Sv.view (SR.sv Z aq);obtain⟨pj,pm,lr⟩:=VFnT.fx (i5 1);refine cN 4 50 53 [] [(52,(aG [(a_.getD 1 v_).m,(a_.getD 1 v_).r,(sL (cA (ib 1) 2) (a_.getD 1 v_).u.length (cK (ib 1) 2))])),(53,(sL cv ck.length c0))] (Ha_ (Sv.ix (j:=1) (SR.sv Z aq)) (Hl_ 7 (qn 36 0 3 (hc0 (VFnT.vw (i5 1))) V V V V) Hn_)) aq V V fun _=>aQ (W:=[]) (aP V V V) V V V (nw.loose_c 17 (a_.getD 1 v_) ck (HS.call aq.log0) M M lr b0 hT (fun j=>a0e (mx.v j) M) (mx.val)) (kb V) ?_
 rintro _ o1 ⟨T,h8,k4,h9,k5,hf,a9,co,rfl,oU,hK,hL,pS⟩;refine⟨Wr.did co.log,fun oO k8=>?_⟩;replace co:=HS.back aq.log0 V co;replace co:=HS.lg co aq k8;generalize ({o1 with log:=oO}:Heap)=pE at co⊢;replace hT:=hT.mono a9;replace a6:=(((a6.mono hA).mono f2).mono b9).mono a9;replace ap:=(ap.mono b9).mono a9;replace Z:=Z.mono a9;replace a4:=((a4.mono f2).mono b9).mono a9;replace dt:=dt.mono a9;replace dv:=dv.mono a9;refine zld [N,T] co V (RL.cs ⟨h6,k0,h7,k3,V,M,dt,dv⟩ (RL.cs ⟨h8,k4,h9,k5,V,M,hK,hL⟩ RL.nl)) V fun hg hp nx pF ci c5=>fa (sL hg [N,T].length hp) V V V (aW 2 V (aC V ?_))
 obtain⟨U,jb⟩:=Sv.view (SR.sv ap c5);obtain⟨pn,hD,e1⟩:=AllT.fx (jb 0);obtain⟨A,jq⟩:=Sv.view (OS.sv ci c5 (i:=0) V);obtain⟨pq,e2,e3⟩:=AllT.fx (jq 1);let n3:Value:=(aG [(sL (cA (U 0) 0) (E.getD 0 v_).l.length (cK (U 0) 0)),(sL (cA (U 0) 1) (E.getD 0 v_).p.length (cK (U 0) 1)),(E.getD 0 v_).k])
 let n4:Value:=(aG [(sL (cA (A 1) 0) ([N,T].getD 1 v_).l.length (cK (A 1) 0)),(sL (cA (A 1) 1) ([N,T].getD 1 v_).p.length (cK (A 1) 1)),([N,T].getD 1 v_).k])
 refine cN 6 56 61 [] [(58,n3),(61,n4)] (Ha_ (Sv.ix (j:=0) (SR.sv ap c5)) (Hl_ 2 (qn 32 0 3 (hc0 (AllT.vw (jb 0))) V V V V) (Ha_ (Sv.ix (j:=1) (OS.sv ci c5 (i:=0) V) e_ (show(1:Int)<(2:Int) from by decide)) (Hl_ 5 (qn 32 0 3 (hc0 (AllT.vw (jq 1) (show 1<2 from by decide))) V V V V) Hn_)))) c5 V V fun _=>eU (id:= .a) (rs_litC (ps:=[(0,n3),(1,n4)]) (cells:=[(sL (cA (U 0) 0) (E.getD 0 v_).l.length (cK (U 0) 0)),(sL (cA (U 0) 1) (E.getD 0 v_).p.length (cK (U 0) 1)),(E.getD 0 v_).k,(sL (cA (A 1) 0) ([N,T].getD 1 v_).l.length (cK (A 1) 0)),(sL (cA (A 1) 1) ([N,T].getD 1 v_).p.length (cK (A 1) 1)),([N,T].getD 1 v_).k]) c5.log0 V V V K_) V V (fun _ _ _ _=>did_a V V V) (kb V) ?_
 rintro _ o2 _ ⟨b7,rfl,c6,_⟩ oP k9;replace c6:=HS.lg c6 c5 k9;generalize ({o2 with log:=oP}:Heap)=pG at c6⊢;refine fa (sL (some ⟨b7,0,none⟩) 2 2) V V V (aW 3 V ?_);have qI:=dF ar 9 M;refine aU 1 63 68 [] [(68,(decide ((0:Int)<((E.getD 0 v_).l.length:Int))))] (Ha_ (ixR (j:=0) e_) (Hr_ 3 1 Hn_)) c6 V V fun _=>ba (fun f H'=> ∃(bt:List AllT),∃av,∃(aw:Nat),∃b5 F',hf.le F'/\Hb H F' H' [nx,b5] R/\OZ F' av bt aw b5/\aA f [(3,ar),(4,ad),(5,(sL a0 lens.length a5)),(13,(sL b6 a_.length b8)),(14,(sL d1 [3,2].length em)),(15,(sL f1 E.length f3)),(17,(sL hg [N,T].length hp)),(18,(sL av bt.length aw))]) (fun kc=>?_) ?_
 ·refine zd 1 0 (fun o6=>?_) fun o6=>?_
  ·have so:=dF ad ((E.getD 0 v_).l.length:Int) M;refine ab (aS 5 0 69 73 [] [(69,(sL (some ⟨b7,0,none⟩) 2 2)),(73,(sL (cA (U 0) 0) (E.getD 0 v_).l.length (cK (U 0) 0)))] (Ha_ (ixR (j:=0) e_) (Hr_ 4 1 Hn_)) c6 V V fun _=>?_);have i1:=HS.snoc c6;refine zao 2 (OS.nil:OS hf N_ ([]:List LocT) []) i1 (SR.sv hD i1) V V V M fun e4 f0 n1 qf go ox=>?_
   have go:OS hf (sL e4 (E.getD 0 v_).l.length f0) (E.getD 0 v_).l n1:=go;refine sgo 3 6 75 76 [] [] (Ha_ (ixR (j:=0) e_) (Hr_ 8 1 Hn_)) ox V V fun pP l3 g6=>ae 1 V (aC V ?_)
   have pL:=dF ad ((E.getD 0 v_).l.length:Int);have pM:=dF ar (9:Int);refine cN 15 77 91 [] [(89,(bh ar (9:Int))),(91,(.pointer (some ⟨sB (sL e4 (E.getD 0 v_).l.length f0),sO (sL e4 (E.getD 0 v_).l.length f0)+(bh ad ((E.getD 0 v_).l.length:Int)).toNat *Rp.sz LocT+1,none⟩)))] (Ha_ (ixR (j:=0) e_) (Hr_ 3 1 (Ha_ (ixR (j:=0) e_) (Hr_ 8 1 (Hc_ 10 (m1.eP 17 ad ((E.getD 0 v_).l.length:Int) {l3 with log:=[]} M) (Hc_ 12 (m1.eP 17 ar (9) {l3 with log:=[]} M) (Ha_ (Sv.ix (j:=bh ad ((E.getD 0 v_).l.length:Int)) (OS.sv go g6 (i:=2) rfl)) Hn_))))))) g6 rfl rfl fun _=>gc (id:= .x (n1.map Prod.fst)) (bW (α:=LocT) (j:=(bh ad ((E.getD 0 v_).l.length:Int)).toNat) (off:=1) (q:=2) (⟨((E.getD 0 v_).l.getD (bh ad ((E.getD 0 v_).l.length:Int)).toNat v_).inS,bh ar (9:Int)⟩:LocT) go g6.log0 rfl rfl rfl rfl rfl rfl rfl rfl (aO (x:=v_) M) rfl (by rintro cs ⟨rfl,qJ⟩;exact⟨a08 V,⟨V,M⟩⟩)) V (by rintro _ _ pf ⟨hr,_,hwr⟩;exact dh V V (Wr.did hwr)) (kb V) ?_
   rintro _ o3 pf ⟨hr,g7,_⟩ oQ lf;replace g7:=HS.lg g7 g6 lf;generalize ({o3 with log:=oQ}:Heap)=pH at g7⊢;have py:=OS.len' hr;refine aW 0 V ?_;obtain⟨l1,f7,oy,iz,pW⟩:=OS.frz hr g7 (i:=2) V;replace e1:=e1.mono f7;replace e2:=e2.mono f7;replace e3:=e3.mono f7;let n5:Fp:=(fP b7 [(sL e4 (E.getD 0 v_).l.length f0),(sL (cA (U 0) 1) (E.getD 0 v_).p.length (cK (U 0) 1)),(E.getD 0 v_).k,(sL (cA (A 1) 0) ([N,T].getD 1 v_).l.length (cK (A 1) 0)),(sL (cA (A 1) 1) ([N,T].getD 1 v_).p.length (cK (A 1) 1)),([N,T].getD 1 v_).k])
   have oc:OS l1 (sL (some ⟨b7,0,none⟩) 2 2) ([(⟨(E.getD 0 v_).l.set (bh ad ((E.getD 0 v_).l.length:Int)).toNat (⟨((E.getD 0 v_).l.getD (bh ad ((E.getD 0 v_).l.length:Int)).toNat v_).inS,bh ar (9:Int)⟩:LocT),(E.getD 0 v_).p,(E.getD 0 v_).k⟩:AllT),([N,T].getD 1 v_)]:List AllT) n5:=os_raw (b:=b7) (l:=([(⟨(E.getD 0 v_).l.set (bh ad ((E.getD 0 v_).l.length:Int)).toNat (⟨((E.getD 0 v_).l.getD (bh ad ((E.getD 0 v_).l.length:Int)).toNat v_).inS,bh ar (9:Int)⟩:LocT),(E.getD 0 v_).p,(E.getD 0 v_).k⟩:AllT),([N,T].getD 1 v_)]:List AllT)) (show RL l1 [(sL e4 (E.getD 0 v_).l.length f0),(sL (cA (U 0) 1) (E.getD 0 v_).p.length (cK (U 0) 1)),(E.getD 0 v_).k,(sL (cA (A 1) 0) ([N,T].getD 1 v_).l.length (cK (A 1) 0)),(sL (cA (A 1) 1) ([N,T].getD 1 v_).p.length (cK (A 1) 1)),([N,T].getD 1 v_).k] ([(⟨(E.getD 0 v_).l.set (bh ad ((E.getD 0 v_).l.length:Int)).toNat (⟨((E.getD 0 v_).l.getD (bh ad ((E.getD 0 v_).l.length:Int)).toNat v_).inS,bh ar (9:Int)⟩:LocT),(E.getD 0 v_).p,(E.getD 0 v_).k⟩:AllT),([N,T].getD 1 v_)]:List AllT) from⟨[(sL e4 (E.getD 0 v_).l.length f0),(sL (cA (U 0) 1) (E.getD 0 v_).p.length (cK (U 0) 1)),(E.getD 0 v_).k],[(sL (cA (A 1) 0) ([N,T].getD 1 v_).l.length (cK (A 1) 0)),(sL (cA (A 1) 1) ([N,T].getD 1 v_).p.length (cK (A 1) 1)),([N,T].getD 1 v_).k],V,⟨e4,f0,(cA (U 0) 1),(cK (U 0) 1),(by simp only[SR.len' iz]),M,(SR.norm iz),e1⟩,⟨[(sL (cA (A 1) 0) ([N,T].getD 1 v_).l.length (cK (A 1) 0)),(sL (cA (A 1) 1) ([N,T].getD 1 v_).p.length (cK (A 1) 1)),([N,T].getD 1 v_).k],[],V,⟨(cA (A 1) 0),(cK (A 1) 0),(cA (A 1) 1),(cK (A 1) 1),V,M,e2,e3⟩,V⟩⟩);exact kc _ _ ⟨([(⟨(E.getD 0 v_).l.set (bh ad ((E.getD 0 v_).l.length:Int)).toNat (⟨((E.getD 0 v_).l.getD (bh ad ((E.getD 0 v_).l.length:Int)).toNat v_).inS,bh ar (9:Int)⟩:LocT),(E.getD 0 v_).p,(E.getD 0 v_).k⟩:AllT),([N,T].getD 1 v_)]:List AllT),(some ⟨b7,0,none⟩),2,(n5:Fp),_,(f7),(HS.sub oy (a01 _ _)),oc,f_⟩
  let n6:Fp:=(fP b7 [(sL (cA (U 0) 0) (E.getD 0 v_).l.length (cK (U 0) 0)),(sL (cA (U 0) 1) (E.getD 0 v_).p.length (cK (U 0) 1)),(E.getD 0 v_).k,(sL (cA (A 1) 0) ([N,T].getD 1 v_).l.length (cK (A 1) 0)),(sL (cA (A 1) 1) ([N,T].getD 1 v_).p.length (cK (A 1) 1)),([N,T].getD 1 v_).k])
  have oh:OS hf (sL (some ⟨b7,0,none⟩) 2 2) [(E.getD 0 v_),([N,T].getD 1 v_)] n6:=os_raw (b:=b7) (l:=[(E.getD 0 v_),([N,T].getD 1 v_)]) (show RL hf [(sL (cA (U 0) 0) (E.getD 0 v_).l.length (cK (U 0) 0)),(sL (cA (U 0) 1) (E.getD 0 v_).p.length (cK (U 0) 1)),(E.getD 0 v_).k,(sL (cA (A 1) 0) ([N,T].getD 1 v_).l.length (cK (A 1) 0)),(sL (cA (A 1) 1) ([N,T].getD 1 v_).p.length (cK (A 1) 1)),([N,T].getD 1 v_).k] [(E.getD 0 v_),([N,T].getD 1 v_)] from⟨[(sL (cA (U 0) 0) (E.getD 0 v_).l.length (cK (U 0) 0)),(sL (cA (U 0) 1) (E.getD 0 v_).p.length (cK (U 0) 1)),(E.getD 0 v_).k],[(sL (cA (A 1) 0) ([N,T].getD 1 v_).l.length (cK (A 1) 0)),(sL (cA (A 1) 1) ([N,T].getD 1 v_).p.length (cK (A 1) 1)),([N,T].getD 1 v_).k],V,⟨(cA (U 0) 0),(cK (U 0) 0),(cA (U 0) 1),(cK (U 0) 1),V,M,hD,e1⟩,⟨[(sL (cA (A 1) 0) ([N,T].getD 1 v_).l.length (cK (A 1) 0)),(sL (cA (A 1) 1) ([N,T].getD 1 v_).p.length (cK (A 1) 1)),([N,T].getD 1 v_).k],[],V,⟨(cA (A 1) 0),(cK (A 1) 0),(cA (A 1) 1),(cK (A 1) 1),V,M,e2,e3⟩,V⟩⟩);exact kc _ _ ⟨[(E.getD 0 v_),([N,T].getD 1 v_)],(some ⟨b7,0,none⟩),2,(n6:Fp),_,fR,c6,oh,f_⟩
 skip;rintro qB qe ⟨bt,av,aw,b5,l0,cc,ow,ay,ii⟩;refine au _ ii (fun _=>?_);clear ii;replace hT:=hT.mono cc;replace Z:=Z.mono cc;refine am 2 V (ab (zm (sL b6 a_.length b8) ?_));have i2:=HS.snoc ow;refine zao 2 (OS.nil:OS l0 N_ ([]:List VFnT) []) i2 (SR.sv Z i2) V V V M fun a7 b2 pg qg b1 g8=>?_
 have b1:OZ l0 a7 a_ b2 pg:=b1;refine za (sL a7 a_.length b2) (ae 2 V (ab ?_));obtain⟨ih,jw⟩:=Sv.view (OS.sv b1 g8 (i:=2) V);obtain⟨pu,pw,lv⟩:=VFnT.fx (jw 0);refine bK 6 0 94 99 [] [(94,(sL a7 a_.length b2)),(97,(aG [(a_.getD 0 v_).m,(a_.getD 0 v_).r,(sL (cA (ih 0) 2) (a_.getD 0 v_).u.length (cK (ih 0) 2))])),(98,ar),(99,ad)] (Ha_ (Sv.ix (j:=0) (OS.sv b1 g8 (i:=2) V)) (Hl_ 3 (qn 36 0 3 (VFnT.vw (jw 0)) V V V V) Hn_)) K_ V fun _=>zc (m9.mut_c 17 (a_.getD 0 v_) ar ad (HS.call g8) M M lv M M hT M (fun j=>oki_up (vfG.oki hn j) M)) ?_
 rintro _ qh ⟨b4,hh,hq,l2,a1,g9,rfl,oV,oW,hM,pU,pV⟩;replace g9:=HS.back g8 V g9;replace hT:=hT.mono a1;replace a6:=(a6.mono cc).mono a1;replace ci:=(ci.mono cc).mono a1;replace b1:=b1.mono a1;replace ap:=(ap.mono cc).mono a1;replace Z:=Z.mono a1;replace a4:=(a4.mono cc).mono a1;replace ay:=ay.mono a1;refine bK 1 7 101 101 [] [(101,(.pointer (some ⟨sB (sL a7 a_.length b2),sO (sL a7 a_.length b2)+0 *Rp.sz VFnT,none⟩)))] (Ha_ (Sv.ix (j:=0) (OS.sv b1 g9 (i:=2) V)) Hn_) K_ V fun _=>cL (bW (α:=VFnT) (j:=0) (off:=0) (q:=2) b4 b1 g9 V V V V V V V V (aO (x:=v_) M) V (iE (F:=l2) (Y:=b4) (cl:=[b4.m,b4.r,(sL hh b4.u.length hq)]) ⟨hh,hq,V,M,M,hM⟩)) V ?_
 rintro _ qi ph ⟨gt,hv,_⟩;have pz:=OS.len' gt;refine ae 3 V ?_;have rc: ∀c∈(a_.set 0 b4),ShF c:=set_sh (p2_sh hP) (sh_ok hn X X);refine wT 1 [] 102 104 [] [(104,(decide ((6:Int)<(lens.length:Int))))] V fun _=>ba (fun f H'=> ∃(le:List Int),∃ag,∃(an:Nat),∃F',l2.le F'/\Hb H F' H' [nx,b5,ph] R/\Sr F' ag le an/\aA f [(5,(sL ag le.length an)),(13,(sL b6 a_.length b8)),(14,(sL d1 [3,2].length em)),(15,(sL f1 E.length f3)),(17,(sL hg [N,T].length hp)),(18,(sL av bt.length aw)),(19,(sL a7 a_.length b2))]/\(le.length<=1000)) (fun kd=>?_) ?_
 ·refine zd 0 0 (fun o7=>?_) fun o7=>?_
  ·refine ab (zm (sL a0 lens.length a5) (aT (jd (α:=Int) (j:=6) a6 hv V V V (optN e_) M) V V ?_));rintro _ _ _ ⟨l4,m0,rfl,f8,ol⟩;simp only at f8;replace f8:=f8.symm;subst f8;refine za (sL l4 (lens.take 6).length m0) (ae 0 V ?_);exact kd _ _ ⟨lens.take 6,l4,m0,_,fR,hv,ol,f_,(by(simp;omega))⟩
  exact kd _ _ ⟨lens,a0,a5,_,fR,hv,a6,f_,M⟩
 skip;rintro qC qj ⟨le,ag,an,p8,bb,oz,b3,ik,hle⟩;refine au _ ik (fun _=>?_);clear ik;replace gt:=gt.mono bb;refine am 3 V ?_;obtain⟨p9,bk,i3,g4,pX⟩:=OS.frz gt oz (i:=2) V;replace ci:=(ci.mono bb).mono bk;replace ap:=(ap.mono bb).mono bk;refine ab (wTo 4 0 [] 107 110 [] [(107,(sL f1 E.length f3)),(108,(sL hg [N,T].length hp)),(109,(sL av bt.length aw)),(110,(sL f1 E.length f3))] V fun _=>aT (jd (α:=AllT) (j:=1) ap i3 V V V (optN e_) M) V V ?_);rintro _ _ _ ⟨o4,pd,rfl,f9,ht⟩;simp only at f9;replace f9:=f9.symm;subst f9;obtain⟨qa,a2,oD,hu,pY⟩:=OS.frz ci i3 (i:=0) V;replace ay:=((ay.mono bb).mono bk).mono a2;obtain⟨oX,a3,oE,oo,pZ⟩:=OS.frz ay oD (i:=1) V;replace ht:=(ht.mono a2).mono a3;replace hu:=hu.mono a3;replace ap:=(ap.mono a2).mono a3;refine zlo ([E,[N,T],bt,E.take 1]:List (List AllT)) oE V (RL.cs ⟨f1,f3,V,ap⟩ (RL.cs ⟨hg,hp,V,hu⟩ (RL.cs ⟨av,aw,V,oo⟩ (RL.cs ⟨o4,pd,V,ht⟩ RL.nl)))) V fun hO kg k6 qk g1 oF=>wTo 2 6 [] 113 114 [] [(113,(iI 4)),(114,(iI 0))] V fun _=>ae 2 V (aj (fun(mm:Nat) f H'=> ∃(u1:Nat),∃F',oX.le F'/\Hb H F' H' [[],[],[],k6] R/\aA f [(5,(sL ag le.length an)),(13,(sL b6 a_.length b8)),(14,(sL d1 [3,2].length em)),(19,(sL a7 a_.length b2)),(112,(sL hO ([E,[N,T],bt,E.take 1]:List (List AllT)).length kg)),(113,(iI 4)),(114,(u1:Int))]/\mm=4-u1/\(u1<=4)) _ ⟨0,_,fR,oF,f_,V,M⟩ ?_)
 rintro p0 qD qm ⟨u1,oY,bl,fi,il,rfl,hi⟩ oJ;refine au _ il (fun _=>?_);clear il;replace hT:=((((hT.mono bb).mono bk).mono a2).mono a3).mono bl;replace g1:=g1.mono bl;replace g4:=((g4.mono a2).mono a3).mono bl;replace Z:=((((Z.mono bb).mono bk).mono a2).mono a3).mono bl;replace a4:=((((a4.mono bb).mono bk).mono a2).mono a3).mono bl;replace b3:=(((b3.mono bk).mono a2).mono a3).mono bl;refine am 1 V (wT 2 [] 115 115 [] [(115,(decide ((u1:Int)<4)))] V fun _=>zd 4 5 (fun o8=>?_) fun o8=>?_)
 ·obtain⟨ax,j1⟩:=Sv.view (OS.sv g1 fi (i:=3) V);have et:=fL (j1 u1);refine wrp 2 116 117 [21] [(21,(sL (cA (ax u1) 0) (([E,[N,T],bt,E.take 1]:List (List AllT)).getD u1 v_).length (cK (ax u1) 0)))] (Ha_ (Sv.ix (j:=(u1:Int)) (OS.sv g1 fi (i:=3) V) M (show(u1:Int)<(4:Int) from by omega)) (Hl_ 1 (ql 26 0 (vL (j1 u1) (show u1<4 from by omega)) V V) Hn_)) K_ V fun _=>?_
  generalize rG:(([E,[N,T],bt,E.take 1]:List (List AllT)).getD u1 v_)=lx at *
  refine ab (wTo 2 0 [] 118 119 [] [(118,(sL b6 a_.length b8)),(119,(sL a7 a_.length b2))] V fun _=>zlo ([a_,a_.set 0 b4]:List (List VFnT)) fi V (RL.cs ⟨b6,b8,V,Z⟩ (RL.cs ⟨a7,b2,by rw[SR.len' g4],SR.norm g4⟩ RL.nl)) V fun l9 nm n2 qo g2 oG=>wTo 2 3 [] 121 122 [] [(121,(iI 2)),(122,(iI 0))] V fun _=>ae 2 V (aj (fun(mm:Nat) f H'=> ∃(u2:Nat),∃F',oY.le F'/\Hb H F' H' [[],[],[],k6,n2] R/\aA f [(5,(sL ag le.length an)),(13,(sL b6 a_.length b8)),(14,(sL d1 [3,2].length em)),(19,(sL a7 a_.length b2)),(21,(sL (cA (ax u1) 0) lx.length (cK (ax u1) 0))),(112,(sL hO ([E,[N,T],bt,E.take 1]:List (List AllT)).length kg)),(113,(iI 4)),(114,(u1:Int)),(120,(sL l9 ([a_,a_.set 0 b4]:List (List VFnT)).length nm)),(121,(iI 2)),(122,(u2:Int))]/\mm=2-u2/\(u2<=2)) _ ⟨0,_,fR,oG,f_,V,M⟩ ?_));rintro p2 qE qp ⟨u2,oZ,ch,ha,it,rfl,hj⟩ oK;refine au _ it (fun _=>?_);clear it;replace hT:=hT.mono ch;replace g2:=g2.mono ch;replace a4:=a4.mono ch;replace b3:=b3.mono ch;replace et:=et.mono ch;have ks:=sh_at (p2_sh hP) rc u2;have hB:=fun a z=>emB_of _ a z ks
  refine am 1 V (wT 2 [] 123 123 [] [(123,(decide ((u2:Int)<2)))] V fun _=>zd 4 5 (fun o9=>?_) fun o9=>?_)
  ·obtain⟨a8,j2⟩:=Sv.view (OS.sv g2 ha (i:=4) V);have f4:=fL (j2 u2);refine wrp 2 124 125 [23] [(23,(sL (cA (a8 u2) 0) (([a_,a_.set 0 b4]:List (List VFnT)).getD u2 v_).length (cK (a8 u2) 0)))] (Ha_ (Sv.ix (j:=(u2:Int)) (OS.sv g2 ha (i:=4) V) M (show(u2:Int)<(2:Int) from by omega)) (Hl_ 1 (ql 23 0 (vL (j2 u2) (show u2<2 from by omega)) V V) Hn_)) K_ V fun _=>?_
   generalize rH:(([a_,a_.set 0 b4]:List (List VFnT)).getD u2 v_)=ly at *
   refine ab (wTo 2 0 [] 126 127 [] [(126,(sL d1 [3,2].length em)),(127,(sL ag le.length an))] V fun _=>zlo ([[3,2],le]:List (List Int)) ha V (RL.cs ⟨d1,em,V,a4⟩ (RL.cs ⟨ag,an,V,b3⟩ RL.nl)) V fun o5 pe pi qq g3 oH=>wTo 2 3 [] 129 130 [] [(129,(iI 2)),(130,(iI 0))] V fun _=>ae 2 V (aj (fun(mm:Nat) f H'=> ∃(u3:Nat),∃F',oZ.le F'/\Hb H F' H' [[],[],[],k6,n2,pi] R/\aA f [(5,(sL ag le.length an)),(13,(sL b6 a_.length b8)),(14,(sL d1 [3,2].length em)),(19,(sL a7 a_.length b2)),(21,(sL (cA (ax u1) 0) lx.length (cK (ax u1) 0))),(23,(sL (cA (a8 u2) 0) ly.length (cK (a8 u2) 0))),(112,(sL hO ([E,[N,T],bt,E.take 1]:List (List AllT)).length kg)),(113,(iI 4)),(114,(u1:Int)),(120,(sL l9 ([a_,a_.set 0 b4]:List (List VFnT)).length nm)),(121,(iI 2)),(122,(u2:Int)),(128,(sL o5 ([[3,2],le]:List (List Int)).length pe)),(129,(iI 2)),(130,(u3:Int))]/\mm=2-u3/\(u3<=2)) _ ⟨0,_,fR,oH,f_,V,M⟩ ?_));rintro p4 qF qr ⟨u3,qb,c9,fj,iv,rfl,hk⟩ oL;refine au _ iv (fun _=>?_);clear iv;replace hT:=hT.mono c9;replace g3:=g3.mono c9;replace et:=et.mono c9;replace f4:=f4.mono c9;refine am 1 V (wT 2 [] 131 131 [] [(131,(decide ((u3:Int)<2)))] V fun _=>zd 4 5 (fun pc=>?_) fun pc=>?_)
   ·obtain⟨c8,ka⟩:=Sv.view (OS.sv g3 fj (i:=5) V);have hE:=fL (ka u3);refine wrp 2 132 133 [25] [(25,(sL (cA (c8 u3) 0) (([[3,2],le]:List (List Int)).getD u3 v_).length (cK (c8 u3) 0)))] (Ha_ (Sv.ix (j:=(u3:Int)) (OS.sv g3 fj (i:=5) V) M (show(u3:Int)<(2:Int) from by omega)) (Hl_ 1 (ql 22 0 (vL (ka u3) (show u3<2 from by omega)) V V) Hn_)) K_ V fun _=>?_
    have q6:=ln_at hle u3;generalize rI:(([[3,2],le]:List (List Int)).getD u3 v_)=lz at *
    refine ab (bK 3 0 135 137 [] [(135,(sL (cA (a8 u2) 0) ly.length (cK (a8 u2) 0))),(136,(sL (cA (ax u1) 0) lx.length (cK (ax u1) 0))),(137,(sL (cA (c8 u3) 0) lz.length (cK (c8 u3) 0)))] Hn_ K_ V fun _=>zc (eh.emit_c 17 ly lx lz (HS.call fj) f4 et hE hT (⟨q6,fun k j=>sh_bd ks k j⟩) (fun h=>okE_of h ks)) ?_);rintro _ qs ⟨qw,hQ,ki,hR,kk,hS,kl,hV,kn,hW,ko,f5,hb,pI,qz,qc,e5,hw,rfl,dd,dk,dl,dn,ds,e6,rfl,rfl,rfl⟩;replace hw:=HS.back fj V hw;replace hT:=hT.mono e5;replace et:=et.mono e5;replace f4:=f4.mono e5;replace hE:=hE.mono e5;let n7:Value:=(aG [(sL hQ ((emV ly lx lz).1).wd.length ki),(sL hR ((emV ly lx lz).1).en.length kk),(sL hS ((emV ly lx lz).1).pr.length kl),(sL hV ((emV ly lx lz).1).sl.length kn),(sL hW ((emV ly lx lz).1).al.length ko)])
    refine bK 4 4 139 141 [134] [(139,n7),(140,(sL f5 ((emV ly lx lz).2.1).length hb)),(141,((emV ly lx lz).2.2))] Hn_ K_ V fun _=>zn hw V fun qx qt oI=>sgo 3 9 1 0 [27,28] [(27,(sL f5 ((emV ly lx lz).2.1).length hb)),(28,((emV ly lx lz).2.2))] (Hr_ 9 6 Hn_) oI V V fun pQ qu i4=>ae 2 V (ab (bK 3 0 143 145 [] [(143,(sL (cA (a8 u2) 0) ly.length (cK (a8 u2) 0))),(144,(sL (cA (ax u1) 0) lx.length (cK (ax u1) 0))),(145,(sL (cA (c8 u3) 0) lz.length (cK (c8 u3) 0)))] Hn_ K_ V fun _=>?_))
    refine zc (ei.remit_c 17 ly lx lz (HS.call i4) f4 et hE hT (⟨q6,fun k j=>sh_bd ks k j⟩) (fun h=>okE_of h ks)) ?_;rintro _ qv ⟨qy,hX,kp,hY,kr,h1,kx,h2,ky,h4,kz,f6,he,pJ,qA,qd,bz,hz,rfl,hF,hG,hH,hI,hJ,fd,rfl,rfl,rfl⟩;replace hz:=HS.back i4 V hz;replace hT:=hT.mono bz;replace dd:=dd.mono bz;replace dk:=dk.mono bz;replace dl:=dl.mono bz;replace dn:=dn.mono bz;replace ds:=ds.mono bz;let oa:Value:=(aG [(sL hX ((emV ly lx lz).1).wd.length kp),(sL hY ((emV ly lx lz).1).en.length kr),(sL h1 ((emV ly lx lz).1).pr.length kx),(sL h2 ((emV ly lx lz).1).sl.length ky),(sL h4 ((emV ly lx lz).1).al.length kz)])
    refine bK 4 4 147 149 [142] [(147,oa),(148,(sL f6 ((emV ly lx lz).2.1).length he)),(149,((emV ly lx lz).2.2))] Hn_ K_ V fun _=>zn hz V fun pK pB ll=>sgo 3 9 1 0 [30,31] [(30,(sL f6 ((emV ly lx lz).2.1).length he)),(31,((emV ly lx lz).2.2))] (Hr_ 9 7 Hn_) ll V V fun px pC ez=>ae 2 V (ab (zm (iI ((emV ly lx lz).2.2)) ?_))
    refine zm (iI ((emV ly lx lz).2.2)) (cd (v:=(.bool ((emV ly lx lz).2.2 !=(emV ly lx lz).2.2))) (ap_cmp V V V V) V V (zm (.bool ((emV ly lx lz).2.2 !=(emV ly lx lz).2.2)) ?_));have c7:((emV ly lx lz).2.2 !=(emV ly lx lz).2.2)=false:=by simp
    refine eT V c7 (cd (v:=n7) (gw (i:=0) V V V (HS.hc ez (i:=6) V) V V V) V V (eT V c7 (cd (v:=oa) (gw (i:=0) V V V (HS.hc ez (i:=7) V) V V V) V V (eT V c7 (zc (en.sameB_c 17 ((emV ly lx lz).1) ((emV ly lx lz).1) (HS.call ez) dd dk dl dn ds hF hG hH hI hJ hT m_ (⟨a0e (hB _ _).w e_,a0e (hB _ _).e e_,a0e (hB _ _).p e_,a0e (hB _ _).s e_,a0e (hB _ _).a e_⟩)) ?_)))));rintro _ ob ⟨p5,pA,ex,e0,rfl,rfl⟩;replace e0:=HS.back ez V e0;replace hT:=hT.mono ex;replace e6:=(e6.mono bz).mono ex;replace fd:=fd.mono ex;refine eT V c7 (cd (v:=(.bool false)) (ne (b:=true) V) V V (cd (v:=(.bool false)) (kE V c7 V) V V (zm (.bool false) (eT V V (zm (sL f5 ((emV ly lx lz).2.1).length hb) ?_)))));refine eT V V (zm (sL f6 ((emV ly lx lz).2.1).length he) (eT V V (zc (mh.sameLists_c 17 ((emV ly lx lz).2.1) ((emV ly lx lz).2.1) (HS.call e0) e6 fd hT (a0e (hB _ _).d e_) (fun j=>a0e ((hB _ _).dj j) e_)) ?_)));rintro _ ob ⟨p6,rfl,rfl,rfl⟩;refine eT V V (cd (v:=(.bool (!(decide (((emV ly lx lz).2.1)=((emV ly lx lz).2.1)))))) (ne V) V V (cd (v:=(.bool (!(decide (((emV ly lx lz).2.1)=((emV ly lx lz).2.1)))))) (kE V V V) V V (gL (am 1 V (dy 2 (v:=(!(decide (((emV ly lx lz).2.1)=((emV ly lx lz).2.1))))) V o_ V V ?_)))));refine wU 1 [] 130 130 [165] [(130,(iI ((u3:Int)+1)))] (vi (n:=(u3:Int)+1)) V fun _=>?_
    refine oL _ _ _ ?_ ⟨u3+1,_,(fT (fT (fT (c9) e5) bz) ex),(HS.sub e0 (a01 _ _)),f_,V,M⟩;omega
   refine wU 1 [] 122 122 [166] [(122,(iI ((u2:Int)+1)))] (vi (n:=(u2:Int)+1)) V fun _=>?_
   refine oK _ _ _ ?_ ⟨u2+1,_,(fT (ch) c9),(HS.sub fj (a01 _ _)),f_,V,M⟩;omega
  refine wU 1 [] 114 114 [167] [(114,(iI ((u1:Int)+1)))] (vi (n:=(u1:Int)+1)) V fun _=>?_
  refine oJ _ _ _ ?_ ⟨u1+1,_,(fT (bl) ch),(HS.sub ha (a01 _ _)),f_,V,M⟩;omega
 refine wU 1 [(0,.o (.bool true))] 12 12 [168] [(12,true)] (ex_c_q 17 (HS.call fi) hT) V fun _=>ak ⟨.inr V,_,V,true,_,(fT (fT (fT (fT (fT (fT (fT (fT (fT (fT (hA) f2) b9) a9) cc) a1) bb) bk) a2) a3) bl),(HS.forget fi),V,m_⟩
end el
end Go.Proofs.YtgdggmlghemecaaGreatDoor
