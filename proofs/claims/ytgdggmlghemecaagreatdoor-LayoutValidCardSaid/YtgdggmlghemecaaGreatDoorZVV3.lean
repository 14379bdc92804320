/-
Symbolic runs of the code that the law reaches, part 4. No condition but bounds on lengths.
-/
import Derived.Test.YtgdggmlghemecaaGreatDoorZVV2
noncomputable section
namespace Go.Proofs.YtgdggmlghemecaaGreatDoor
open Go.R
open Inhabited renaming default→v_
set_option maxRecDepth 10000
set_option maxHeartbeats 4000000
set_option linter.unusedVariables false
set_option linter.unusedSimpArgs false
open m1 m2 m3 m4 m5 m6 m7 m8 ma ml mb mc md mf mg mh mi mj na nb nc ni nv rl xa ej ea eb ed ec eg eh ek ep fa fb fc fd_
namespace ex
open Go.R m1 m2 m3 m4 m5 m6 ma ml mb mc md mf mg mh mi mj na nb nc ni nv m7 xa ej ea eb eg ek ep fa fb
theorem fet_o{t:Int}{b:Bool}{x:Int}: ∀i∈lP t b x,i.op=36\/i.op=37\/i.op=10:=fun i hi=>by
 unfold lP at hi;split at hi
 ·rw[a08]at hi;subst hi;exact .inl V
 split at hi
 ·cases hi
 rw[a08]at hi;subst hi;exact .inr (.inr V)
theorem sav_o{b:Bool}{x:Int}: ∀i∈savV b x,i.op=36\/i.op=37\/i.op=10:=fun i hi=>by
 unfold savV at hi;split at hi
 ·rw[a08]at hi;subst hi;exact .inr (.inl V)
 split at hi
 ·cases hi
 rw[a08]at hi;subst hi;exact .inr (.inr V)
theorem call_o{ll:List LocT}{a:List Int}: ∀n,∀i∈lQ ll a n,i.op=36\/i.op=37\/i.op=10
 |0,i,hi=>by cases hi
 |n+1,i,hi=>by unfold lQ at hi;exact(a07.1 hi).elim (call_o n i) (fet_o i)
theorem one_o{q:Prop} [Decidable q]{x:InsT}(h:x.op=36\/x.op=37\/x.op=10): ∀i∈(if q then [x] else []),i.op=36\/i.op=37\/i.op=10:=fun i hi=>by
 split at hi
 ·rw[a08]at hi;subst hi;exact h
 cases hi
theorem oth_o{f:InfT}{i:InsT}{ll:List LocT}: ∀x∈kU f i ll,(x.op=36\/x.op=37\/x.op=10)\/x.op=opV i/\x.n=oN f i:=fun x E=>by
 unfold kU at E;rw[a07,a07,a07,a07]at E;rcases E with(((E|E)|E)|E)|E
 ·exact .inl (one_o (.inl V) x E)
 ·exact .inl (one_o (.inl V) x E)
 ·exact .inl (one_o (.inl V) x E)
 ·rw[a08]at E;subst E;exact .inr ⟨V,V⟩
 exact .inl (one_o (.inr (.inl V)) x E)
theorem exp_o{v:VInT}{ll:List LocT}: ∀i∈lq v ll,(i.op=36\/i.op=37\/i.op=10)\/(v.i.op=6/\i=⟨6,(v.args.length:Int),0,0,v.i.n⟩)\/(alV v.i.op=true/\v.i.op≠6/\i.op=opV v.i/\i.n=oN (aN v.i.op) v.i):=fun i hi=>by
 unfold lq at hi;split at hi
 ·rename_i T;split at hi
  ·rename_i E;rw[a07,a07]at hi;rcases hi with(hi|hi)|hi
   ·exact .inl (call_o _ i hi)
   ·rw[a08]at hi;exact .inr (.inl ⟨E,hi⟩)
   exact .inl (sav_o i hi)
  rename_i E;have N:i∈kU (aN v.i.op) v.i ll->(i.op=36\/i.op=37\/i.op=10)\/(v.i.op=6/\i=⟨6,(v.args.length:Int),0,0,v.i.n⟩)\/(alV v.i.op=true/\v.i.op≠6/\i.op=opV v.i/\i.n=oN (aN v.i.op) v.i):=fun hi=>(oth_o i hi).imp id fun h=> .inr ⟨T.1,E,h⟩
  split at hi
  ·unfold movV at hi;split at hi
   ·cases hi
   split at hi
   ·rw[a08]at hi;subst hi;exact .inl (.inl V)
   split at hi
   ·rw[a08]at hi;subst hi;exact .inl (.inr (.inl V))
   exact N hi
  exact N hi
 cases hi
structure GI(l:List VFnT)(na:Int)(i:InsT):Prop where
 v:VldI i
 n:in64 i.n
 j: ¬(i.op=5\/i.op=7\/i.op=8)
 c:i.op=6->i.n<(l.length:Int)/\(l.getD i.n.toNat v_).m=i.a
 m:i.op=34\/i.op=35->i.n<na
theorem n_in: ∀k:Fin 37,¬(k.val=13)-> -9223372036854775808<=loN ((k.val:Int)+1)/\hiN ((k.val:Int)+1)<=9223372036854775807:=by decide
theorem vld_in{i:InsT}(v:VldI i)(h:i.op≠14):in64 i.n:=by have N:=v.n h;obtain⟨k,T⟩:=ex37 v.o;have E:=n_in k M;rw[←T]at E;exact⟨by omega,by omega⟩
theorem GI.of{l:List VFnT}{na:Int}{i:InsT}(v:VldI i)(h: ¬(i.op=5\/i.op=7\/i.op=8\/i.op=6\/i.op=34\/i.op=35\/i.op=14)):GI l na i:=⟨v,vld_in v M,by omega,fun _=>by omega,fun _=>by omega⟩
theorem exp_g{l:List VFnT}{na p g:Int}{v:VInT}{ll:List LocT}(hv:eP p g v=true)(hp:p<=6)(hL:lS ll)(hn:in64 v.i.n)(hc:vpI l na v=true): ∀i∈lq v ll,GI l na i:=fun i hi=>by
 have U:=exp_v hv hp hL i hi;have hc:=gV.1 hc;rcases exp_o i hi with h|⟨T,e⟩|⟨Z,T,ho,h⟩
 ·exact .of U M
 ·subst e;exact⟨U,hn,by dsimp only;omega,fun _=>hc.1 T,fun h=>by dsimp only at h;omega⟩
 unfold alV at Z;have Z:=of_decide_eq_true Z;unfold opV at ho;by_cases N:v.i.op=38
 ·rw[if_pos N]at ho;exact .of U M
 rw[if_neg N]at ho;by_cases E:v.i.op=13/\(v.i.n< -4194304\/4194304<=v.i.n)
 ·rw[if_pos E]at ho;have e:oN (aN v.i.op) v.i=v.i.n:=by rw[E.1];rfl
  exact⟨U,by rw[h,e];exact hn,by omega,fun _=>by omega,fun _=>by omega⟩
 rw[if_neg E]at ho;by_cases hm:v.i.op=34\/v.i.op=35
 ·have e:oN (aN v.i.op) v.i=v.i.n:=by rcases hm with e|e<;>(rw[e];rfl)
  exact⟨U,vld_in U M,by omega,fun _=>by omega,fun _=>by rw[h,e];exact hc.2 hm⟩
 exact .of U M
inductive Em(Q:InsT->Prop)(nb:Int)(s:EmS):EmS->Prop
 |refl:Em Q nb s s
 |put {t:EmS} {i:InsT}:Em Q nb s t->Q i->Em Q nb s (put1 t i)
 |jmp {t:EmS} {i:InsT} {b:Int}:Em Q nb s t->VldI i->(i.op=5\/i.op=7\/i.op=8)->0<=b/\b<nb->Em Q nb s (lj t i b)
section
variable {Q:InsT->Prop} {nb:Int} {s t u:EmS}
theorem Em.trans(h:Em Q nb s t)(k:Em Q nb t u):Em Q nb s u:=by
 induction k with
 |refl=>exact h
 |put _ hq ih=>exact ih.put hq
 |jmp _ hv ho hb ih=>exact ih.jmp hv ho hb
theorem Em.pt: ∀{l:List InsT} {t:EmS},Em Q nb s t->(∀i∈l,Q i)->Em Q nb s (eS t l)
 | [],_,h,_=>h
 |i::l,t,h,hl=>by
  have E:=Em.pt (l:=l) (h.put (hl i (a0n ..))) fun j N=>hl j (a0f _ N)
  exact E
end
section
variable {l:List VFnT} {na nb g:Int} {s t:EmS} {ll:List LocT}
theorem fet_g{to:Int}{x:LocT}(E:0<=to/\to<=7)(h:lT x): ∀i∈lP to x.inS x.x,GI l na i:=fun i hi=> .of (fet_v E h i hi) (by have:=fet_o i hi;omega)
theorem fetS_g{x:LocT}(h:lT x): ∀i∈fetS x,GI l na i:=fun i hi=> .of (fetS_v h i hi) (by
 unfold fetS at hi;exact fun h=>by have:=one_o (.inl V) i hi;omega)
theorem Em.tr{b:BlkT}(h:Em (GI l na) nb s t)(hb:lL nb g b=true)(hl:(ll.length:Int)=g)(Z:lS ll)(nx:Int):Em (GI l na) nb s (fY t b ll nx):=by
 have hv:=bM.1 hb;have U:b.f=2\/b.f=3->lT (atV ll b.r):=fun e=>Z _ M M
 unfold fY;split
 ·split
  ·exact h
  exact h.jmp (v5 e_) (.inl V) M
 split
 ·have T:=U M;have E:=opr_k T (s:=5) e_;have N:=h.pt (fetS_g (l:=l) (na:=na) T);unfold brnV;split
  ·exact N.jmp (v8 E e_) (.inr (.inr V)) M
  split
  ·exact N.jmp (v7 E e_) (.inr (.inl V)) M
  exact(N.jmp (v8 E e_) (.inr (.inr V)) M).jmp (v5 e_) (.inl V) M
 split
 ·exact(h.pt (fet_g e_ (U M))).pt fun i hi=>by rw[a08]at hi;subst hi;exact .of v2 e_
 exact h.pt fun i hi=>by rw[a08]at hi;subst hi;exact .of (v4 M) (by dsimp only;omega)
theorem Em.v{p:Int}(Z:p<=6)(U:lS ll): ∀{q:List VInT} {t:EmS},Em (GI l na) nb s t->(∀v∈q,eP p g v=true/\in64 v.i.n/\vpI l na v=true)->Em (GI l na) nb s (jD ll t q)
 | [],_,h,_=>h
 |v::q,_,h,hq=>by obtain⟨E,N,T⟩:=hq v (a0n ..);exact Em.v (q:=q) Z U (h.pt (exp_g E Z U N T)) fun w hw=>hq w (a0f _ hw)
theorem Em.par(h:Em (GI l na) nb s t): ∀n,n<=6->Em (GI l na) nb s (parE t n)
 |0,_=>h
 |n+1,hn=>(Em.par h n M).pt fun i hi=>by rw[a08]at hi;subst hi;exact .of (v37 M M) (by dsimp only;omega)
end
structure Iv(Q:InsT->Prop)(A:EmS)(nb:Int)(s:EmS):Prop where
 ex: ∃e,s.l=A.l++e
 pl:s.pl.length=s.l.length
 at_: ∀k,k<s.l.length->s.pl.getD k 0=ee (s.l.take k)
 sz:s.sz=ee s.l
 js: ∀j∈s.js,(A.l.length:Int)<=j.at_/\j.at_<(s.l.length:Int)/\(0<=j.to/\j.to<nb)/\((s.l.getD j.at_.toNat v_).op=5\/(s.l.getD j.at_.toNat v_).op=7\/(s.l.getD j.at_.toNat v_).op=8)
 v: ∀k,A.l.length<=k->k<s.l.length->Q (s.l.getD k v_)\/VldI (s.l.getD k v_)/\((s.l.getD k v_).op=5\/(s.l.getD k v_).op=7\/(s.l.getD k v_).op=8)/\∃j∈s.js,j.at_=(k:Int)
section
variable {Q:InsT->Prop} {A s t:EmS} {nb:Int}
theorem Iv.len(h:Iv Q A nb s):A.l.length<=s.l.length:=by obtain⟨e,E⟩:=h.ex;rw[E,a01];omega
theorem Iv.put(h:Iv Q A nb s){i:InsT}{js:List JmpT}(hj: ∀j∈js,j∈s.js\/j.at_=(s.l.length:Int)/\(0<=j.to/\j.to<nb)/\(i.op=5\/i.op=7\/i.op=8))(hs: ∀j∈s.js,j∈js)(hi:Q i\/VldI i/\(i.op=5\/i.op=7\/i.op=8)/\∃j∈js,j.at_=(s.l.length:Int)):Iv Q A nb (put1 ⟨s.l,s.pl,s.sz,js⟩ i):=by
 have hl:=h.len;have e:(s.l++[i]).length=s.l.length+1:=by rw[a01,a0j]
 refine⟨?_,?_,fun k hk=>?_,?_,fun j N=>?_,fun k N E=>?_⟩
 ·obtain⟨x,hx⟩:=h.ex;exact⟨x++[i],by show s.l++[i]=_;rw[hx,a0l]⟩
 ·show(s.pl++[s.sz]).length=(s.l++[i]).length;rw[a01,e,h.pl];rfl
 ·show(s.pl++[s.sz]).getD k 0=ee ((s.l++[i]).take k);have hk:k<s.l.length+1:=e▸hk;rw[dA,h.pl];split
  ·rename_i a_;rw[a_,h.sz,List.take_left]
  rw[h.at_ k M,List.take_append_of_le_length M]
 ·show s.sz+wdI i=ee (s.l++[i]);rw[gk,h.sz];unfold ee;simp
 ·show _/\j.at_<(((s.l++[i]).length:Nat):Int)/\_/\(((s.l++[i]).getD j.at_.toNat v_).op=5\/((s.l++[i]).getD j.at_.toNat v_).op=7\/((s.l++[i]).getD j.at_.toNat v_).op=8)
  rw[e,dA];rcases hj j N with E|⟨E,T,U⟩
  ·have:=h.js j E;rw[if_neg M];exact⟨this.1,by omega,this.2.2⟩
  rw[if_pos M];exact⟨by omega,by omega,T,U⟩
 have E:k<s.l.length+1:=e▸E;show Q ((s.l++[i]).getD k v_)\/VldI ((s.l++[i]).getD k v_)/\(((s.l++[i]).getD k v_).op=5\/((s.l++[i]).getD k v_).op=7\/((s.l++[i]).getD k v_).op=8)/\∃j∈js,j.at_=(k:Int)
 rw[dA];split
 ·rename_i hk;rw[hk];exact hi
 exact(h.v k N M).imp id fun⟨T,U,j,Z,h6⟩=>⟨T,U,j,hs j Z,h6⟩
theorem Em.iv(h:Em Q nb s t)(k:Iv Q A nb s):Iv Q A nb t:=by
 induction h with
 |refl=>exact k
 |put _ hq ih=>exact ih.put (fun j h=> .inl h) (fun j h=>h) (.inl hq)
 |jmp _ hv ho hb ih=>
  have:=ih.put (js:=_++[⟨_,_⟩]) (fun j h=>(a07.1 h).imp id fun h=>(by rw[a08]at h;subst h;exact⟨V,hb,ho⟩)) (fun j h=>a1H _ h) (.inr ⟨hv,ho,_,a1v _ (a08.2 V),V⟩)
  exact this
theorem Em.ge(h:Em Q nb s t):s.l.length<=t.l.length:=by
 induction h with
 |refl=>exact a0d _
 | @put t i _ _ ih=>exact a0e ih (by show t.l.length<=(t.l++[i]).length;rw[a01];omega)
 | @jmp t i b _ _ _ _ ih=>exact a0e ih (by show t.l.length<=(t.l++[i]).length;rw[a01];omega)
end
theorem at_fix{st pl:List Int}{l:List InsT}{j:JmpT}{k:Nat}(N:j.at_.toNat<l.length):(fixJ st pl l j).getD k v_=if j.at_.toNat=k then⟨(l.getD k v_).op,(l.getD k v_).a,(l.getD k v_).b,(l.getD k v_).c,IntKind.i64.wrap (st.getD j.to.toNat 0-pl.getD k 0)⟩ else l.getD k v_:=by
 unfold fixJ;rw[cz];by_cases h:j.at_.toNat=k
 ·rw[if_pos ⟨h,by omega⟩,if_pos h,h]
 rw[if_neg (fun E=>h E.1),if_neg h]
theorem fix_at{st pl:List Int}: ∀(js:List JmpT) (l:List InsT),(∀j∈js,0<=j.at_/\j.at_<(l.length:Int))->∀k,(∃n,(jF st pl l js).getD k v_=⟨(l.getD k v_).op,(l.getD k v_).a,(l.getD k v_).b,(l.getD k v_).c,n⟩/\(n=(l.getD k v_).n/\(∀j∈js,j.at_≠(k:Int))\/∃j∈js,j.at_=(k:Int)/\n=IntKind.i64.wrap (st.getD j.to.toNat 0-pl.getD k 0)))
 | [],l,_,k=>⟨(l.getD k v_).n,V,.inl ⟨V,fun j h=>by cases h⟩⟩
 |j::js,l,h,k=>by
  have U:=h j (a0n ..);obtain⟨n,e,E⟩:=fix_at js (fixJ st pl l j) (fun i hi=>by rw[nF];exact h i (a0f _ hi)) k;rw[at_fix M]at e E;by_cases T:j.at_.toNat=k
  ·rw[if_pos T]at e E;refine⟨n,e,.inr ?_⟩;rcases E with⟨E,_⟩|⟨i,hi,N⟩
   ·exact⟨j,a0n ..,by omega,E⟩
   exact⟨i,a0f _ hi,N⟩
  rw[if_neg T]at e E;refine⟨n,e,E.imp (fun E=>⟨E.1,fun i hi=>?_⟩) fun⟨i,hi,N⟩=>⟨i,a0f _ hi,N⟩⟩;rcases a0v.1 hi with rfl|hi
  ·omega
  exact E.2 i hi
theorem fixE_len{st pl:List Int}: ∀(js:List JmpT) (l:List InsT),(jF st pl l js).length=l.length
 | [],_=>rfl
 |j::js,l=>(fixE_len js (fixJ st pl l j)).trans nF
theorem sum_1(i:InsT):ee [i]=wdI i:=by unfold ee;simp
theorem nk{l m:List InsT}: ∀k,k<=l.length->k<=m.length->(∀q,q<k->(l.getD q v_).op=(m.getD q v_).op)->ee (l.take k)=ee (m.take k)
 |0,_,_,_=>rfl
 |k+1,E,N,h=>by rw[aX E (d:=v_),aX N (d:=v_),gk,gk,nk k M M fun q T=>h q M,sum_1,sum_1];unfold wdI;rw[h k (a1b k)]
theorem l6: ∀l:List InsT,0<=ee l
 | []=>a1q _
 |i::l=>by have E:=l6 l;have N:=fW i;rw[show i::l=[i]++l from V,gk,sum_1];omega
theorem sum_le(l:List InsT)(k:Nat):ee (l.take k)<=ee l:=by have N:=l6 (l.drop k);have E:=gk (l.take k) (l.drop k);rw[a13]at E;omega
section
variable {Q:InsT->Prop} {A s t u:EmS} {nb:Int}
theorem Em.pre(h:Em Q nb s t): ∃e,t.l=s.l++e:=by
 induction h with
 |refl=>exact⟨[],(a0o _).symm⟩
 | @put t i _ _ ih=>obtain⟨e,h⟩:=ih;exact⟨e++[i],by show t.l++[i]=_;rw[h,a0l]⟩
 | @jmp t i b _ _ _ _ ih=>obtain⟨e,h⟩:=ih;exact⟨e++[i],by show t.l++[i]=_;rw[h,a0l]⟩
theorem Em.le(h:Em Q nb s t):s.sz<=t.sz:=by
 induction h with
 |refl=>exact a1q _
 | @put t i _ _ ih=>have:=fW i;exact a1F ih (by show t.sz<=t.sz+wdI i;omega)
 | @jmp t i b _ _ _ _ ih=>have:=fW i;exact a1F ih (by show t.sz<=t.sz+wdI i;omega)
end
def lasI(l:List InsT):InsT:=l.getD (l.length-1) v_
def EndI(i:InsT):Prop:=i.op=2\/i.op=4\/i.op=5
theorem las_snoc(l:List InsT)(i:InsT):lasI (l++[i])=i:=by unfold lasI;rw[dA,a01,a0j,if_pos M]
theorem trm_l{nb g:Int}{b:BlkT}{ll:List LocT}{t:EmS}(T:lL nb g b=true):t.l.length<(fY t b ll nb).l.length/\EndI (lasI (fY t b ll nb).l):=by
 have U:=bM.1 T;have d_: ∀(s:EmS) (i:InsT) (b:Int),t.l.length<=s.l.length->EndI i->t.l.length<(lj s i b).l.length/\EndI (lasI (lj s i b).l):=fun s i b N E=>by rw[show(lj s i b).l=s.l++[i] from V,las_snoc];exact⟨by rw[a01,a0j];omega,E⟩
 have P: ∀(s:EmS) (i:InsT),t.l.length<=s.l.length->EndI i->t.l.length<(eS s [i]).l.length/\EndI (lasI (eS s [i]).l):=fun s i N E=>by rw[show(eS s [i]).l=s.l++[i] from V,las_snoc];exact⟨by rw[a01,a0j];omega,E⟩
 unfold fY;split
 ·rw[if_neg M];exact d_ _ _ _ (a0d _) (.inr (.inr V))
 split
 ·unfold brnV;rw[if_neg M,if_neg M];exact d_ _ _ _ (by rw[d7,cw];omega) (.inr (.inr V))
 split
 ·exact P _ _ (by rw[cw];omega) (.inl V)
 exact P _ _ (a0d _) (.inr (.inl V))
def BokP(l:List VFnT)(na p g nb:Int)(b:BlkT):Prop:=jM p g nb b=true/\∀v∈b.v,in64 v.i.n/\vpI l na v=true
structure BkR(Q:InsT->Prop)(nb:Int)(t:EmS)(st:List Int)(n:Nat)(r:EmS×List Int):Prop where
 em:Em Q nb t r.1
 len:r.2.length=st.length+n
 old: ∀q,q<st.length->r.2.getD q 0=st.getD q 0
 new: ∀q,st.length<=q->q<st.length+n->∃u,Em Q nb t u/\Em Q nb u r.1/\r.2.getD q 0=u.sz/\u.l.length<r.1.l.length
 mono: ∀q p,st.length<=q->q<=p->p<st.length+n->r.2.getD q 0<=r.2.getD p 0
 lst:0<n->EndI (lasI r.1.l)
theorem bk_r{l:List VFnT}{na nb g p:Int}{ll:List LocT}(hp:p<=6)(hl:(ll.length:Int)=g)(hL:lS ll): ∀(bs:List BlkT) (k:Int) (t:EmS) (st:List Int),k+bs.length=nb->(∀b∈bs,BokP l na p g nb b)->BkR (GI l na) nb t st bs.length (kt ll bs k (t,st))
 | [],_,t,st,_,_=>⟨.refl,V,fun _ _=>rfl,fun q T E=>by simp only[a0b]at E;omega,fun q p T E U=>by simp only[a0b]at U;omega,fun h=>absurd h (a23 _)⟩
 |b::bs,k,t,st,hk,hb=>by
  rw[a05]at hk;obtain⟨N,aa⟩:=hb b (a0n ..);unfold jM at N;rw[a09,a0m]at N;have hi:Em (GI l na) nb t (jD ll t b.v):=Em.v hp hL .refl fun v hv=>⟨N.1 v hv,aa v hv⟩
  have ht:=hi.tr N.2 hl hL (k+1);have ih:=bk_r hp hl hL bs (k+1) (fY (jD ll t b.v) b ll (k+1)) (st++[t.sz]) M fun c hc=>hb c (a0f _ hc)
  have e:kt ll (b::bs) k (t,st)=kt ll bs (k+1) (fY (jD ll t b.v) b ll (k+1),st++[t.sz]):=rfl;rw[e,a05];generalize hr:kt ll bs (k+1) (fY (jD ll t b.v) b ll (k+1),st++[t.sz])=r at ih;have sl:(st++[t.sz]).length=st.length+1:=by rw[a01,a0j]
  have Z:r.2.getD st.length 0=t.sz:=by rw[ih.old _ M,dA,if_pos rfl]
  have ap:t.l.length<r.1.l.length:=by
   cases bs with
   |nil=>
    subst hr
    have T:=(trm_l (t:=jD ll t b.v) (ll:=ll) N.2).1
    have E:k+1=nb:=by simpa using hk
    show _<(fY (jD ll t b.v) b ll (k+1)).l.length
    rw[E];exact Nat.lt_of_le_of_lt hi.ge T
   |cons c cs=>
    obtain⟨u,T,E,_,U⟩:=ih.new (st.length+1) M (by rw[a05];omega)
    exact Nat.lt_of_le_of_lt (a0e ht.ge T.ge) U
  refine⟨ht.trans ih.em,by rw[ih.len];omega,fun q hq=>?_,fun q T E=>?_,fun q p T E U=>?_,fun _=>?_⟩
  ·rw[ih.old q M,dA,if_neg M]
  ·by_cases hq:q=st.length
   ·subst hq;exact⟨t,.refl,ht.trans ih.em,Z,ap⟩
   obtain⟨u,U,a_⟩:=ih.new q M M;exact⟨u,ht.trans U,a_⟩
  ·by_cases hq:q=st.length
   ·subst hq;by_cases hp:p=st.length
    ·subst hp;exact a1q _
    obtain⟨u,a_,_,h5,_⟩:=ih.new p M M;rw[Z,h5];exact(ht.trans a_).le
   exact ih.mono q p M E M
  cases bs with
  |nil=>
   subst hr
   have E:k+1=nb:=by simpa using hk
   show EndI (lasI (fY (jD ll t b.v) b ll (k+1)).l)
   rw[E];exact(trm_l N.2).2
  |cons c cs=>exact ih.lst (by rw[a05];omega)
structure Ps(s:EmS):Prop where
 pl:s.pl.length=s.l.length
 at_: ∀k,k<s.l.length->s.pl.getD k 0=ee (s.l.take k)
 sz:s.sz=ee s.l
def InR(l:List VFnT)(na:Int)(L:List InsT)(k:Nat):Prop:=GI l na (L.getD k v_)\/((L.getD k v_).op=5\/(L.getD k v_).op=7\/(L.getD k v_).op=8)/\∃j,j<L.length/\ee (L.take k)+(L.getD k v_).n=ee (L.take j)
structure FnR(l:List VFnT)(na nb:Int)(s:EmS)(r:EmS×List Int):Prop where
 ps:Ps r.1
 keep: ∀k,k<s.l.length->r.1.l.getD k v_=s.l.getD k v_
 gt:s.l.length<r.1.l.length
 st:r.2.length=nb.toNat
 sa: ∀q,q<nb.toNat->∃j,s.l.length<=j/\j<r.1.l.length/\r.2.getD q 0=ee (r.1.l.take j)
 mono: ∀q p,q<=p->p<nb.toNat->r.2.getD q 0<=r.2.getD p 0
 v: ∀k,s.l.length<=k->k<r.1.l.length->InR l na r.1.l k
 lst:EndI (lasI r.1.l)
theorem bok_of{l:List VFnT}{lens:List Int}(h:vpV l lens=true){f:Nat}(hf:f<l.length)(hn: ∀f b i,in64 (((l.getD f v_).u.getD b v_).v.getD i v_).i.n): ∀b∈(l.getD f v_).u,BokP l (lens.length:Int) (l.getD f v_).m (l.getD f v_).r ((l.getD f v_).u.length:Int) b:=fun b U=>by unfold vpV at h;simp only[a09]at h;have N:=lH h.2 hf;unfold vpF at N;rw[a09,a0m]at N;obtain⟨T,E⟩:=N;unfold ca at T;rw[a09,a0m]at T;have E:=E b U;unfold vpB at E;rw[a0m]at E;refine⟨T.2 b U,fun v Z=>⟨?_,E v Z⟩⟩;obtain⟨k,hk,rfl⟩:=a0t.1 U;obtain⟨i,hi,rfl⟩:=a0t.1 Z;have:=hn f k i;rwa [a02 (l:=(l.getD f v_).u),a06 hk,a0I,a02,a06 hi,a0I]at this
theorem fun_r{l:List VFnT}{lens:List Int}(h:vpV l lens=true){f:Nat}(hf:f<l.length)(hn: ∀f b i,in64 (((l.getD f v_).u.getD b v_).v.getD i v_).i.n){a:AllT}(hs:SndP (l.getD f v_) a){s:EmS}(hp:Ps s)(hz:(gh (l.getD f v_) a.l s).1.sz<=60000):FnR l (lens.length:Int) ((l.getD f v_).u.length:Int) s (gh (l.getD f v_) a.l s):=by
 have hb:=bok_of h hf hn;have hv:=(vp_imp h).2 f hf;generalize l.getD f v_=c at *
 have v:=e7 hv;have a0:=v.m;have a8:=v.nb;have hL:=loc_k hs v;have ar:Em (GI l (lens.length:Int)) (c.u.length:Int) ⟨s.l,s.pl,s.sz,[]⟩ (parE ⟨s.l,s.pl,s.sz,[]⟩ c.m.toNat):=Em.par .refl _ M;have B:=bk_r (na:=(lens.length:Int)) (l:=l) a0.2 hs.len hL c.u 0 (parE ⟨s.l,s.pl,s.sz,[]⟩ c.m.toNat) [] M hb;rw[show kt a.l c.u 0 (parE ⟨s.l,s.pl,s.sz,[]⟩ c.m.toNat,[])=gi c a.l s from rfl]at B;have E:=ar.trans B.em;unfold gh at hz⊢;generalize gi c a.l s=x at *
 obtain⟨x,st⟩:=x;dsimp only at *
 have V0:Iv (GI l (lens.length:Int)) ⟨s.l,s.pl,s.sz,[]⟩ (c.u.length:Int) ⟨s.l,s.pl,s.sz,[]⟩:=⟨⟨[],(a0o _).symm⟩,hp.pl,hp.at_,hp.sz,(fun j hj=>by cases hj),fun k N T=>absurd T (Nat.not_lt.2 N)⟩
 have a_:=E.iv V0;have ad:=fixE_len (st:=st) (pl:=x.pl) x.js x.l;have F:=fix_at (st:=st) (pl:=x.pl) x.js x.l fun j hj=>by have:=a_.js j hj;omega
 have ops: ∀k,((jF st x.pl x.l x.js).getD k v_).op=(x.l.getD k v_).op:=fun k=>by obtain⟨n,e,_⟩:=F k;rw[e]
 have tk: ∀k,k<=x.l.length->ee ((jF st x.pl x.l x.js).take k)=ee (x.l.take k):=fun k hk=>nk k M hk fun q _=>ops q
 have a2:x.sz=ee (jF st x.pl x.l x.js):=by have:=tk x.l.length (a0d _);rw[a0T,←ad,a0T]at this;rw[a_.sz,this]
 have S: ∀q,q<c.u.length->∃j,s.l.length<=j/\j<(jF st x.pl x.l x.js).length/\st.getD q 0=ee ((jF st x.pl x.l x.js).take j):=fun q hq=>by obtain⟨u,N,T,h3,U⟩:=B.new q (a0D _) (by simpa using hq);have U:u.l.length<x.l.length:=U;obtain⟨e,he⟩:=T.pre;have he:x.l=u.l++e:=he;refine⟨u.l.length,(ar.trans N).ge,by omega,?_⟩;rw[tk _ M,he,List.take_left,h3,((ar.trans N).iv V0).sz]
 have kp: ∀k:Nat,(∀j∈x.js,j.at_≠(k:Int))->(jF st x.pl x.l x.js).getD k v_=x.l.getD k v_:=fun k hk=>by
  obtain⟨n,e,N⟩:=F k;rcases N with⟨N,_⟩|⟨j,N,T,_⟩
  ·rw[e,N]
  exact absurd T (hk j N)
 refine⟨⟨by rw[ad];exact a_.pl,fun k hk=>?_,a2⟩,fun k hk=>?_,?_,by rw[B.len];simp,fun q hq=>S q (by simpa using hq),fun q p N T=>B.mono q p (a0D _) N (by simpa using T),fun k N T=>?_,?_⟩
 ·have hk:k<x.l.length:=ad▸hk;show x.pl.getD k 0=_;rw[a_.at_ k hk,tk k M]
 ·show(jF st x.pl x.l x.js).getD k v_=s.l.getD k v_;rw[kp k fun j hj=>by have Z:=(a_.js j hj).1;dsimp only at Z;omega];obtain⟨e,he⟩:=a_.ex;rw[he,a02,a0M hk,←a02]
 ·obtain⟨j,N,T,_⟩:=S 0 M;exact Nat.lt_of_le_of_lt N T
 ·have hk:k<x.l.length:=ad▸T;show InR l _ (jF st x.pl x.l x.js) k;rcases a_.v k N hk with hq|⟨_,ho,j,hj,ha⟩
  ·refine .inl ?_;rw[kp k fun j hj e=>hq.j (by have Z:=(a_.js j hj).2.2.2;rwa [show j.at_.toNat=k by omega]at Z)];exact hq
  obtain⟨n,e,hn⟩:=F k;rcases hn with⟨_,hn⟩|⟨i,hi,_,hn⟩
  ·exact absurd ha (hn j hj)
  have ap:=(a_.js i hi).2.2.1;obtain⟨m,_,an,aq⟩:=S i.to.toNat M;have h3:=l6 ((jF st x.pl x.l x.js).take m);have U:=sum_le (jF st x.pl x.l x.js) m;have h5:=l6 (x.l.take k);have h6:=sum_le x.l k;have h7:=a_.sz;refine .inr ⟨by rw[ops];exact ho,m,an,?_⟩;rw[e,tk k M];show ee (x.l.take k)+n=_;rw[hn,a_.at_ k hk,IntKind.wrap_i64];omega
 have N:=B.lst M;show EndI (lasI (jF st x.pl x.l x.js));unfold EndI lasI at N⊢;rw[ops,ad];exact N
structure PgR(l:List VFnT)(a:List AllT)(na:Int)(k:Nat):Prop where
 ps:Ps (emS l a k).s
 v: ∀i,i<(emS l a k).s.l.length->InR l na (emS l a k).s.l i
 el:(emS l a k).en.length=k
 en: ∀f,f<k->∃j,j<(emS l a k).s.l.length/\(emS l a k).en.getD f 0=ee ((emS l a k).s.l.take j)
 al:(emS l a k).ad.length=k
 ad: ∀f,f<k->((emS l a k).ad.getD f v_).length=(l.getD f v_).u.length/\(∀q,q<(l.getD f v_).u.length->∃j,j<(emS l a k).s.l.length/\((emS l a k).ad.getD f v_).getD q 0=ee ((emS l a k).s.l.take j))/\∀q p,q<=p->p<(l.getD f v_).u.length->((emS l a k).ad.getD f v_).getD q 0<=((emS l a k).ad.getD f v_).getD p 0
 pl:(emS l a k).pr.length=k
 pr: ∀f,f<k->(emS l a k).pr.getD f 0=(l.getD f v_).m
 sl:(emS l a k).sl.length=k
 sr: ∀f,f<k->(emS l a k).sl.getD f 0=(a.getD f v_).k
 lst:0<k->EndI (lasI (emS l a k).s.l)
theorem pg_r{l:List VFnT}{a:List AllT}{lens:List Int}(h:emC l a lens)(hn: ∀f b i,in64 (((l.getD f v_).u.getD b v_).v.getD i v_).i.n)(hz:(emS l a l.length).s.sz<=60000): ∀k,k<=l.length->PgR l a (lens.length:Int) k
 |0,_=>by
  have z: ∀{P:Nat->Prop} f,f<0->P f:=fun f hf=>absurd hf (a0B _)
  exact⟨⟨V,z,V⟩,z,V,z,V,z,V,z,V,z,fun h=>absurd h (a23 _)⟩
 |k+1,hk=>by
  have Z:=pg_r h hn hz k M;have R:=fun_r h.vp (f:=k) M hn (h.snd k M) Z.ps (a1F (emS_mono (l:=l) (a:=a) (k:=k+1) hk) hz);have e:emS l a (k+1)=⟨(gh (l.getD k v_) (a.getD k v_).l (emS l a k).s).1,(emS l a k).en++[(emS l a k).s.sz],(emS l a k).pr++[(l.getD k v_).m],(emS l a k).sl++[(a.getD k v_).k],(emS l a k).ad++[(gh (l.getD k v_) (a.getD k v_).l (emS l a k).s).2]⟩:=rfl;generalize gh (l.getD k v_) (a.getD k v_).l (emS l a k).s=r at R e;have tk: ∀j,j<=(emS l a k).s.l.length->ee (r.1.l.take j)=ee ((emS l a k).s.l.take j):=fun j hj=>nk j (by have:=R.gt;omega) hj fun q hq=>by rw[R.keep q M]
  have len1: ∀{α:Type} (x:List α) (y:α),x.length=k->(x++[y]).length=k+1:=fun x y hx=>by rw[a01,hx];rfl
  have g:=R.gt;refine⟨?_,?_,?_,?_,?_,?_,?_,?_,?_,?_,?_⟩<;>rw[e]<;>dsimp only
  ·exact R.ps
  ·intro i hi;rcases a0g i (emS l a k).s.l.length with E|E
   ·unfold InR;rw[R.keep i E,tk i M];refine(Z.v i E).imp id fun⟨N,j,T,U⟩=>⟨N,j,by omega,?_⟩
    rw[tk j M];exact U
   exact R.v i E hi
  ·exact len1 _ _ Z.el
  ·intro f hf;rw[dA,Z.el];split
   ·exact⟨(emS l a k).s.l.length,g,by rw[tk _ (a0d _),a0T];exact Z.ps.sz⟩
   obtain⟨j,E,N⟩:=Z.en f M;exact⟨j,by omega,by rw[tk j M];exact N⟩
  ·exact len1 _ _ Z.al
  ·intro f hf;rw[dA,Z.al];split
   ·rename_i aa;subst aa;exact⟨R.st,fun q hq=>by obtain⟨j,_,N⟩:=R.sa q hq;exact⟨j,N⟩,R.mono⟩
   obtain⟨E,N,T⟩:=Z.ad f M;exact⟨E,fun q hq=>by obtain⟨j,U,a_⟩:=N q hq;exact⟨j,by omega,by rw[tk j M];exact a_⟩,T⟩
  ·exact len1 _ _ Z.pl
  ·intro f hf;rw[dA,Z.pl];split
   ·rename_i aa;rw[aa]
   exact Z.pr f M
  ·exact len1 _ _ Z.sl
  ·intro f hf;rw[dA,Z.sl];split
   ·rename_i aa;rw[aa]
   exact Z.sr f M
  exact fun _=>R.lst
theorem pos_sum{L:List InsT}(h: ∀i∈L,VldI i)(j:Nat):((eZ L j:Nat):Int)=ee (L.take j):=enc_len fun i hi=>h i (a1k hi)
end ex
open ex
namespace ey
open Go.R m1 m2 m3 m4 m5 m6 ma ml mb mc md mf mg mh mi mj na nb nc ni nv m7 xa ej ea eb eg ek ep fa fb ex fc
theorem ini_0{L:List InsT}{k:Nat}(h:L.length<=k):L.getD k v_=(v_:InsT):=by rw[a02,a0J h];rfl
theorem bin_v{l:List VFnT}{a:List AllT}{lens:List Int}(h:emC l a lens)(hs: ∀c∈l,ShF c)(hn: ∀f b i,in64 (((l.getD f v_).u.getD b v_).v.getD i v_).i.n):BinV (emV l a lens).1 (emS l a l.length).s.l:=by
 have O:=okE_of h hs;obtain⟨_,v,el,en,_,_,pl,pr,sl,sr,lst⟩:=pg_r h hn O.sz l.length (a0d _);obtain⟨⟨v1,v2,a_⟩,vf⟩:=vp_imp h.vp;have hw:=emS_words (k:=l.length) O.vld (a0d _);have hV: ∀k,k<(emS l a l.length).s.l.length->VldI ((emS l a l.length).s.l.getD k v_):=fun k hk=>vld_at O.vld hk
 have pos:=pos_sum O.vld;rw[emV_y h];have hz:=O.sz;generalize emS l a l.length=A at *
 have hp:0<A.s.l.length:=by obtain⟨j,E,_⟩:=en 0 M;omega
 have Z:=lh A.s.l;have hx:=lst M;have T: ∀k,k<lens.length->1<=lens.getD k 0/\lens.getD k 0<=16:=fun k hk=>by have hv:=h.vp;unfold vpV at hv;simp only[a09]at hv;exact of_decide_eq_true (a0m.1 hv.1.2 _ (iJ hk))
 refine⟨V,hV,fun k=>?_,⟨by show 1<=(eC A.s.l).length;omega,by show(eC A.s.l).length<=60000;omega⟩,⟨by show 1<=A.en.length;rw[el];omega,by show A.en.length<=8;rw[el];omega⟩,by show A.pr.length=A.en.length;rw[pl,el],by show A.sl.length=A.en.length;rw[sl,el],a_,⟨hp,hx⟩,fun k hk=>?_,fun k hk=>?_,fun k hk=>?_,T,fun k hk ho=>?_,fun k hk ho=>?_,fun k hk ho=>?_⟩
 ·rcases a0g k A.s.l.length with hk|hk
  ·rcases v k hk with g|⟨g,_⟩
   ·exact g.n
   exact vld_in (hV k hk) M
  rw[ini_0 hk];decide
 ·have hk:k<l.length:=el▸hk;obtain⟨j,E,N⟩:=en k hk;exact⟨j,E,by rw[pos];exact N⟩
 ·have hk:k<l.length:=el▸hk;have:=(e7 (vf k hk)).m;show 0<=A.pr.getD k 0/\A.pr.getD k 0<=6;rw[pr k hk];exact this
 ·have hk:k<l.length:=el▸hk;have E:=(e7 (vf k hk)).m;have N:=(h.snd k hk).lo;have U:=(h.snd k hk).hi;show 0<=A.sl.getD k 0/\A.sl.getD k 0<=3000;rw[sr k hk];omega
 ·rcases v k hk with g|⟨_,j,E,N⟩
  ·exact absurd ho g.j
  exact⟨j,E,by rw[pos,pos];exact N⟩
 ·rcases v k hk with g|⟨g,_⟩
  ·have E:=g.c ho;have N:=(hV k hk).n M;rw[ho]at N;have U:0<=(A.s.l.getD k v_).n:=N.1;refine⟨U,by show _<((A.en.length:Nat):Int);rw[el];exact E.1,?_⟩;show A.pr.getD (A.s.l.getD k v_).n.toNat 0=_;rw[pr _ M];exact E.2
  omega
 rcases v k hk with g|⟨g,_⟩
 ·exact g.m ho
 omega
theorem ad_v{l:List VFnT}{a:List AllT}{lens:List Int}(h:emC l a lens)(hs: ∀c∈l,ShF c)(hn: ∀f b i,in64 (((l.getD f v_).u.getD b v_).v.getD i v_).i.n):(emV l a lens).2.1.length=l.length/\(emV l a lens).2.2=0/\∀f,f<l.length->((emV l a lens).2.1.getD f v_).length=(l.getD f v_).u.length/\(∀q,q<(l.getD f v_).u.length->∃j,j<(emS l a l.length).s.l.length/\((emV l a lens).2.1.getD f v_).getD q 0=((eZ (emS l a l.length).s.l j:Nat):Int))/\∀q p,q<=p->p<(l.getD f v_).u.length->((emV l a lens).2.1.getD f v_).getD q 0<=((emV l a lens).2.1.getD f v_).getD p 0:=by have O:=okE_of h hs;have P:=pg_r h hn O.sz l.length (a0d _);have pos:=pos_sum O.vld;rw[emV_y h];refine⟨P.al,V,fun f Z=>?_⟩;obtain⟨E,N,T⟩:=P.ad f Z;exact⟨E,fun q hq=>by obtain⟨j,U,a_⟩:=N q hq;exact⟨j,U,by rw[pos];exact a_⟩,T⟩
end ey
open ey
namespace lv
variable (ex:FuncId) {F:Fz} {H:Heap} {R:List Fp}
theorem vp_good{p:List VFnT}(h:p.length=2/\vfG (p.getD 0 v_) 2/\vfG (p.getD 1 v_) 1):vpV p [3,2]=true:=by
 have hp:p=[p.getD 0 v_,p.getD 1 v_]:=by
  obtain⟨U,_⟩:=h;match p,U with
  | [a,b],_=>rfl
 have hF: ∀{x:VFnT} {n:Int},vfG x n->vpF p 2 x=true:=by
  intro x n Z;refine vpF_yes Z.val (a0m.2 fun b hb=>a0m.2 fun v hv=>gV.2 ?_);have hc:=a0m.1 (a0m.1 Z.ck b hb) v hv;unfold ckI at hc;have hc:=of_decide_eq_true hc;have T:=h.2.1.par;have E:=h.2.2.par;rw[h.1];refine⟨fun a_=>?_,fun N=>hc.2 N⟩;rcases hc.1 a_ with⟨hn,ha⟩|⟨hn,ha⟩
  ·rw[hn];refine⟨by decide,?_⟩;rw[ha];exact T
  rw[hn];refine⟨by decide,?_⟩;rw[ha];exact E
 unfold vpV;have E:p.all (vpF p (([3,2]:List Int).length:Int))=true:=a0m.2 fun x Z=>by
  rw[hp]at Z;simp only[a0v,a0k,or_false]at Z;rcases Z with rfl|rfl
  ·exact hF h.2.1
  exact hF h.2.2
 rw[E,h.1];rfl
theorem sh_vf{x:VFnT}{n:Int}(h:vfG x n):ShF x:=⟨h.nb.2,fun b E=>by
 obtain⟨k,N,rfl⟩:=a0t.1 E;have:=h.v k;rwa [a02,a06 N]at this⟩
abbrev PG2(p:List VFnT):Prop:=p.length=2/\vfG (p.getD 0 v_) 2/\vfG (p.getD 1 v_) 1
theorem p2_all{p:List VFnT}(h:PG2 p): ∀k,k<p.length->∃n:Int,n<=2/\vfG (p.getD k v_) n:=fun k N=>by
 have E:=h.1;have:k=0\/k=1:=M
 rcases this with rfl|rfl
 ·exact⟨2,by decide,h.2.1⟩
 exact⟨1,by decide,h.2.2⟩
theorem p2_sh{p:List VFnT}(h:PG2 p): ∀c∈p,ShF c:=fun c hc=>by obtain⟨k,E,rfl⟩:=a0t.1 hc;obtain⟨n,_,N⟩:=p2_all h k E;have:=sh_vf N;rwa [a02,a06 E]at this
theorem getD_or{α:Type}(l:List α)(k:Nat)(d:α):l.getD k d=d\/l.getD k d∈l:=by
 rw[a02];rcases e:l[k]? with _|x
 ·exact .inl V
 exact .inr (a0r e)
theorem sh_bd{l:List VFnT}(h: ∀c∈l,ShF c)(k j:Nat):((l.getD k v_).u.getD j v_).v.length<=1000:=by
 rcases getD_or l k v_ with e|e
 ·rw[e];cases j<;>exact a0D _
 have hc:=(h _ e).i;rcases getD_or (l.getD k v_).u j v_ with E|E
 ·rw[E];exact a0D _
 exact a0e (hc _ E) e_
theorem sr_n64{B:Base}{F:Fz}{H:Heap}{L R:List Fp}{v:Value}{p:List VFnT}(h:SR F v p)(hs:HS B F H L R): ∀f b i,in64 (((p.getD f v_).u.getD b v_).v.getD i v_).i.n:=fun f b i=>by obtain⟨cf,T⟩:=Sv.view (SR.sv h hs);obtain⟨_,_,E⟩:=VFnT.fx (T f);obtain⟨cg,U⟩:=Sv.view (SR.sv E hs);obtain⟨_,_,_,_,N⟩:=BlkT.fx (U b);obtain⟨ch,Z⟩:=Sv.view (SR.sv N hs);exact(VInT.fx (Z i)).2.2.2.2.1
theorem vl_c{e n E:Int}{x b:Bool}(h:0<=e/\e<n)(T:x=true)(N:E<=e):((((decide (e<0))||(decide (n<=e)))||(!x))||(b&&(decide (e<E))))=false:=by subst T;rw[decide_eq_false M,decide_eq_false M,decide_eq_false (p:=e<E) M];cases b<;>rfl
theorem ex_c(_:FuncId)(hs:HS (.of H []) F H [] R)(E:TB 37 tabC F):C Tryz.prog 1 (KT 60 17 37 tabC) 17 [] H fun v H'=> ∃(r:Bool),H'=H/\v= .bool r/\r=true:=
 ⟨0,.bool true,H,by unfold call lR;rw[(E.heap hs).known e_],true,V,V,V⟩
theorem ex_c_q(e:FuncId)(hs:HS (.of H []) F H [] R)(E:TB 37 tabC F):C Tryz.prog 1 (KT 60 17 37 tabC) 17 [] H fun v H'=>v= .bool true/\H'=H:=cq (ex_c e hs E) (by rintro _ _ ⟨_,rfl,rfl,rfl⟩;exact⟨V,V⟩)
theorem valid_law{dj:Option Addr}{fz:Nat}(l:List Int){el:Option Addr}{f3:Nat}(m:List Int)(hs:HS (.of H []) F H [] R)(hl:SR F (sL dj l.length fz) l)(hm:SR F (sL el m.length f3) m)(hT:TB 37 tabC F):C Tryz.prog 1 (KT 60 17 37 tabC) 4 [(sL dj l.length fz),(sL el m.length f3)] H fun v H'=> ∃(z:Bool) (F':Fz),Fz.le F F'/\HS (.of H []) F' H' [] R/\v= .bool z/\z=true:=by
 refine aC Tryz.func4 V V ?_;refine am 1 V ?_;refine wT 2 [] 4 4 [] [(4,(.bool false))] V fun _=>?_
 refine ab ?_;refine wTo 2 0 [] 16 17 [] [(16,(sL dj l.length fz)),(17,(sL el m.length f3))] V fun _=>?_
 refine cu (aO V V V) V V (m6.vfuncs_c 17 l m (HS.call hs) hl hm hT) ?_;rintro _ H3 ⟨bb,bk,p3,e0,e4,q3,F3,e1,cc,rfl,aa,bz,rfl,h3⟩;replace cc:=HS.back hs V cc;replace hT:=hT.mono e1;refine wTo 5 3 [] 19 20 [5,6,15] [(5,(sL bb p3.length bk)),(6,(sL e0 [3,2].length e4))] V fun _=>?_
 refine ah 2 V ?_;obtain⟨pP,rfl⟩: ∃x,x=p3:=⟨_,V⟩
 have hP:PG2 pP:=by assumption
 have i1:=hP.1;have a6:=p2_sh hP;refine ab ?_;refine wm (sL bb pP.length bk) V V V ?_;refine cu (aO V V V) V V (fd_.alloc2_c 17 pP (HS.call cc) aa hT (by first|exact p2_all hP|omega) (by first|exact p2_all hP|omega)) ?_;rintro _ H5 ⟨ez,e3,a5,g5,F5,b9,cg,rfl,e6,rfl,h5,hK⟩;replace cg:=HS.back cc V cg;replace hT:=hT.mono b9;replace aa:=aa.mono b9;replace bz:=bz.mono b9;refine wTo 5 2 [] 24 25 [7,8,21] [(7,(sL ez a5.length e3)),(8,(.bool true))] V fun _=>?_
 refine ah 2 V ?_;obtain⟨aA,rfl⟩: ∃x,x=a5:=⟨_,V⟩
 have hY:=(by assumption: ∀q,q<(pP).length->SndP ((pP).getD q v_) (aA.getD q v_))
 have hX:aA.length=(pP).length:=by assumption
 have et:emC pP aA [3,2]:=⟨vp_good hP,hX,hY⟩
 refine ab ?_;refine bL 3 0 27 29 [] [(27,(sL bb pP.length bk)),(28,(sL ez aA.length e3)),(29,(sL e0 [3,2].length e4))] Hn_ (by kernel_rfl) V fun _=>?_
 refine cu (aO V V V) V V (eh.emit_c 17 pP aA [3,2] (HS.call cg) aa e6 bz hT (by first|exact⟨by decide,fun k j=>sh_bd a6 k j⟩|exact fun h=>okE_of h a6) (by first|exact⟨by decide,fun k j=>sh_bd a6 k j⟩|exact fun h=>okE_of h a6)) ?_;rintro _ H8 ⟨b8,a2,a9,b4,ch,b5,ci,b6,co,b7,c5,a1,a8,hF,e8,F8,c8,dv,rfl,ar,dl,dn,ds,dt,a_,rfl,rfl,rfl⟩;replace dv:=HS.back cg V dv;replace hT:=hT.mono c8;replace aa:=aa.mono c8;refine bL 4 4 31 33 [26] [(31,(aG [(sL a2 ((emV pP aA [3,2]).1).wd.length a9),(sL b4 ((emV pP aA [3,2]).1).en.length ch),(sL b5 ((emV pP aA [3,2]).1).pr.length ci),(sL b6 ((emV pP aA [3,2]).1).sl.length co),(sL b7 ((emV pP aA [3,2]).1).al.length c5)])),(32,(sL a1 ((emV pP aA [3,2]).2.1).length a8)),(33,(iI ((emV pP aA [3,2]).2.2)))] Hn_ (by kernel_rfl) V fun _=>?_
 refine zn dv V fun f4 hv fd=>?_
 refine sgo 3 9 1 0 [10,11] [(10,(sL a1 ((emV pP aA [3,2]).2.1).length a8)),(11,(iI ((emV pP aA [3,2]).2.2)))] (Hr_ 9 0 Hn_) fd V V fun hh hw a7=>?_
 refine ah 3 V ?_;have dk:=sr_n64 aa a7;have hB:=bin_v et a6 dk;have hA:=ad_v et a6 dk;refine sj 1 34 49 [] [(49,(.bool (((false||((emV pP aA [3,2]).2.2 !=0))||false)||((((emV pP aA [3,2]).2.1).length:Int) !=2))))] (Hj1_ 7 (fun _=>(jn a7 46 0 5 0 V V V V V)) (Hk1_ 8 (fun _=>(jc a7 fun _ _ j q=>fc.vbin_c 17 ((emV pP aA [3,2]).1) q (ar.mono j) (dl.mono j) (dn.mono j) (ds.mono j) (dt.mono j) (hT.mono j) (by first|exact(emS pP aA (pP).length).s.l|exact hB) (by first|exact(emS pP aA (pP).length).s.l|exact hB))) Hn_)) a7 V V fun hj hz ht ax b1=>?_
 replace hT:=hT.mono ax;replace ar:=ar.mono ax;refine bW 2 (v:=(((false||((emV pP aA [3,2]).2.2 !=0))||false)||((((emV pP aA [3,2]).2.1).length:Int) !=2))) V (by rw[hA.2.1];simp;omega) V V ?_;refine ab ?_;refine aY 2 0 50 51 [] [(51,(sL a2 ((emV pP aA [3,2]).1).wd.length a9))] (Hr_ 1 0 Hn_) b1 V V fun _=>?_
 refine cu (aO V V V) V V (fb.st_c 17 ((emV pP aA [3,2]).1).wd (HS.call b1) ar hT (by first|exact(emS pP aA (pP).length).s.l|exact hB.w|exact hB.v|exact hB.n|(have h9:=hB.w1;omega)) (by first|exact(emS pP aA (pP).length).s.l|exact hB.w|exact hB.v|exact hB.n|(have h9:=hB.w1;omega)) (by first|exact(emS pP aA (pP).length).s.l|exact hB.w|exact hB.v|exact hB.n|(have h9:=hB.w1;omega)) (by first|exact(emS pP aA (pP).length).s.l|exact hB.w|exact hB.v|exact hB.n|(have h9:=hB.w1;omega)) (by first|exact(emS pP aA (pP).length).s.l|exact hB.w|exact hB.v|exact hB.n|(have h9:=hB.w1;omega))) ?_;rintro _ hC ⟨bl,b3,Z,f1,a3,b2,rfl,an,hn,hp⟩;replace b2:=HS.back b1 V b2;refine wa (sL bl Z.length b3) V V V ?_;refine ah 3 V ?_;have N:(Z).length=(emV pP aA [3,2]).1.wd.length:=by assumption
 have f5:=(by assumption: ∀q,(Z).getD q false=true↔ ∃j,j<(emS pP aA (pP).length).s.l.length/\eZ (emS pP aA (pP).length).s.l j=q)
 refine wT 2 [] 1 0 [13] [(13,(iI 0))] V fun _=>?_
 let e5:Fp:=(fP f4 [(sL a2 ((emV pP aA [3,2]).1).wd.length a9),(sL b4 ((emV pP aA [3,2]).1).en.length ch),(sL b5 ((emV pP aA [3,2]).1).pr.length ci),(sL b6 ((emV pP aA [3,2]).1).sl.length co),(sL b7 ((emV pP aA [3,2]).1).al.length c5)])
 refine ak (fun(mm:Nat) f H'=> ∃(E:Nat) (F':Fz),Fz.le f1 F'/\HS (Base.of H []) F' H' [e5] R/\aB f [(5,(sL bb pP.length bk)),(10,(sL a1 ((emV pP aA [3,2]).2.1).length a8)),(12,(sL bl Z.length b3)),(13,(iI (E:Int)))]/\mm=2-E/\(E<=2)) _ ⟨0,_,fR,b2,f_,V,r_⟩ ?_;rintro hq hG hD ⟨E,f2,av,ap,c9,rfl,hf⟩ fj;refine au _ c9 (fun _=>?_);clear c9;replace hT:=(hT.mono a3).mono av;replace a_:=((a_.mono ax).mono a3).mono av;replace aa:=((aa.mono ax).mono a3).mono av;replace an:=an.mono av;refine am 2 V ?_;refine wT 1 [] 53 54 [] [(54,(.bool (decide ((E:Int)<2))))] V fun _=>?_
 refine eV 5 5 (v:=(decide ((E:Int)<2))) V V V V (fun c6=>?_) (fun c6=>?_)
 ·try simp only[BS]at c6
  obtain⟨f6,f7,f8⟩:=hA.2.2 E M;obtain⟨_,_,hW⟩:=p2_all hP E M;have iz:=hW.nb;obtain⟨g8,d1⟩:=Sv.view (SR.sv a_ ap);have hM:=fL (d1 E);obtain⟨g9,d2⟩:=Sv.view (SR.sv aa ap);obtain⟨g4,g6,g7⟩:=VFnT.fx (d2 E);refine wrDp 1 57 68 [] [(68,(.bool (((((emV pP aA [3,2]).2.1).getD E v_).length:Int) !=((pP.getD E v_).u.length:Int))))] (Ha_ (Sv.ix (j:=(E:Int)) (SR.sv a_ ap) (by first|(dsimp only;omega)|omega|(rw[N];omega)) (by first|(dsimp only;omega)|omega|(rw[N];omega))) (Hl_ 3 (ql 22 0 (hc0 (vL (d1 E) (by first|(dsimp only;omega)|omega|(rw[N];omega)))) V V) (Ha_ (Sv.ix (j:=(E:Int)) (SR.sv aa ap) (by first|(dsimp only;omega)|omega|(rw[N];omega)) (by first|(dsimp only;omega)|omega|(rw[N];omega))) (Hl_ 9 (ql 34 2 (hc0 (VFnT.vw (d2 E) (by first|(dsimp only;omega)|omega|(rw[N];omega)))) V V) Hn_)))) V (by kernel_rfl) V fun _=>?_
  refine bW 2 (v:=(((((emV pP aA [3,2]).2.1).getD E v_).length:Int) !=((pP.getD E v_).u.length:Int))) V (by rw[f6];simp) V V ?_;refine wT 2 [] 1 0 [14] [(14,(iI 0))] V fun _=>?_
  refine ak (fun(mm:Nat) f H'=> ∃(k:Nat) (F':Fz),Fz.le f2 F'/\HS (Base.of H []) F' H' [e5] R/\aB f [(5,(sL bb pP.length bk)),(10,(sL a1 ((emV pP aA [3,2]).2.1).length a8)),(12,(sL bl Z.length b3)),(13,(iI (E:Int))),(14,(iI (k:Int)))]/\mm=((emV pP aA [3,2]).2.1.getD E v_).length-k/\(k<=((emV pP aA [3,2]).2.1.getD E v_).length)) _ ⟨0,_,fR,ap,f_,V,r_⟩ ?_;rintro hr hH hE ⟨k,hu,a4,U,dd,rfl,hk⟩ f0;refine au _ dd (fun _=>?_);clear dd;replace a_:=a_.mono a4;replace an:=an.mono a4;refine am 2 V ?_;obtain⟨ha,ef⟩:=Sv.view (SR.sv a_ U);have hO:=fL (ef E);refine wrp 1 69 75 [] [(75,(.bool (decide ((k:Int)<((((emV pP aA [3,2]).2.1).getD E v_).length:Int)))))] (Ha_ (Sv.ix (j:=(E:Int)) (SR.sv a_ U) (by first|(dsimp only;omega)|omega|(rw[N];omega)) (by first|(dsimp only;omega)|omega|(rw[N];omega))) (Hl_ 4 (ql 22 0 (vL (ef E) (by first|(dsimp only;omega)|omega|(rw[N];omega))) V V) Hn_)) (by kernel_rfl) V fun _=>?_
  refine eV 4 5 (v:=(decide ((k:Int)<((((emV pP aA [3,2]).2.1).getD E v_).length:Int)))) V V V V (fun c7=>?_) (fun c7=>?_)
  ·try simp only[BS]at c7
   obtain⟨jq,e2,hL⟩:=f7 k M;have f9:=pos_b e2;rw[←hB.w]at f9;have go:(Z).getD (((emV pP aA [3,2]).2.1.getD E v_).getD k 0).toNat false=true:=(f5 _).2 ⟨jq,e2,by omega⟩;have gt:=f8 (k-1) k M M;obtain⟨hb,aw⟩:=Sv.view (SR.sv a_ U);have ay:=fL (aw E);obtain⟨he,aq⟩:=Sv.view (SR.sv ay U);have hI:=fI (aq k);obtain⟨hg,fi⟩:=Sv.view (SR.sv an U);have hJ:=fI (aq ((k:Int)-1).toNat);refine wrDp 1 78 132 [] [(132,(.bool ((((decide (((((emV pP aA [3,2]).2.1).getD E v_).getD k 0)<0))||(decide ((Z.length:Int)<=((((emV pP aA [3,2]).2.1).getD E v_).getD k 0))))||(!(Z.getD (((((emV pP aA [3,2]).2.1).getD E v_).getD k 0).toNat) false)))||((decide ((0:Int)<(k:Int)))&&(decide (((((emV pP aA [3,2]).2.1).getD E v_).getD k 0)<((((emV pP aA [3,2]).2.1).getD E v_).getD ((k:Int)-1).toNat 0)))))))] (Ha_ (Sv.ix (j:=(E:Int)) (SR.sv a_ U) (by first|(dsimp only;omega)|omega|(rw[N];omega)) (by first|(dsimp only;omega)|omega|(rw[N];omega))) (Hl_ 3 (ql 22 0 (hc0 (vL (aw E) (by first|(dsimp only;omega)|omega|(rw[N];omega)))) V V) (Ha_ (Sv.ix (j:=(k:Int)) (SR.sv ay U) (by first|(dsimp only;omega)|omega|(rw[N];omega)) (by first|(dsimp only;omega)|omega|(rw[N];omega))) (Hl_ 6 (ql 3 0 (hc0 (vI (aq k) (by first|(dsimp only;omega)|omega|(rw[N];omega)))) V V) (Ha_ (fun(T:(decide (((((emV pP aA [3,2]).2.1).getD E v_).getD k 0)<0))=false)=>(Sv.ix (j:=(E:Int)) (SR.sv a_ U) (by(try simp only[BS]at T);(first|(dsimp only;omega)|omega|(rw[N];omega))) (by(try simp only[BS]at T);(first|(dsimp only;omega)|omega|(rw[N];omega))))) (be 12 (fun T=>(ql 22 0 (hc0 (vL (aw E) (by(try simp only[BS]at T);(first|(dsimp only;omega)|omega|(rw[N];omega))))) V V)) (Ha_ (fun(T:(decide (((((emV pP aA [3,2]).2.1).getD E v_).getD k 0)<0))=false)=>(Sv.ix (j:=(k:Int)) (SR.sv ay U) (by(try simp only[BS]at T);(first|(dsimp only;omega)|omega|(rw[N];omega))) (by(try simp only[BS]at T);(first|(dsimp only;omega)|omega|(rw[N];omega))))) (be 15 (fun T=>(ql 3 0 (hc0 (vI (aq k) (by(try simp only[BS]at T);(first|(dsimp only;omega)|omega|(rw[N];omega))))) V V)) (Ha_ (fun(T:((decide (((((emV pP aA [3,2]).2.1).getD E v_).getD k 0)<0))||(decide ((Z.length:Int)<=((((emV pP aA [3,2]).2.1).getD E v_).getD k 0))))=false)=>(Sv.ix (j:=(E:Int)) (SR.sv a_ U) (by(try simp only[BS]at T);(first|(dsimp only;omega)|omega|(rw[N];omega))) (by(try simp only[BS]at T);(first|(dsimp only;omega)|omega|(rw[N];omega))))) (be 25 (fun T=>(ql 22 0 (hc0 (vL (aw E) (by(try simp only[BS]at T);(first|(dsimp only;omega)|omega|(rw[N];omega))))) V V)) (Ha_ (fun(T:((decide (((((emV pP aA [3,2]).2.1).getD E v_).getD k 0)<0))||(decide ((Z.length:Int)<=((((emV pP aA [3,2]).2.1).getD E v_).getD k 0))))=false)=>(Sv.ix (j:=(k:Int)) (SR.sv ay U) (by(try simp only[BS]at T);(first|(dsimp only;omega)|omega|(rw[N];omega))) (by(try simp only[BS]at T);(first|(dsimp only;omega)|omega|(rw[N];omega))))) (be 28 (fun T=>(ql 3 0 (hc0 (vI (aq k) (by(try simp only[BS]at T);(first|(dsimp only;omega)|omega|(rw[N];omega))))) V V)) (Ha_ (fun(T:((decide (((((emV pP aA [3,2]).2.1).getD E v_).getD k 0)<0))||(decide ((Z.length:Int)<=((((emV pP aA [3,2]).2.1).getD E v_).getD k 0))))=false)=>(Sv.ix (j:=((((emV pP aA [3,2]).2.1).getD E v_).getD k 0)) (SR.sv an U) (by(try simp only[BS]at T);(first|(dsimp only;omega)|omega|(rw[N];omega))) (by(try simp only[BS]at T);(first|(dsimp only;omega)|omega|(rw[N];omega))))) (be 30 (fun T=>(ql 4 0 (hc0 (vB (fi (((((emV pP aA [3,2]).2.1).getD E v_).getD k 0).toNat)) (by(try simp only[BS]at T);(first|(dsimp only;omega)|omega|(rw[N];omega))))) V V)) (Ha_ (fun(T:(decide ((0:Int)<(k:Int)))=true) (g2:(((decide (((((emV pP aA [3,2]).2.1).getD E v_).getD k 0)<0))||(decide ((Z.length:Int)<=((((emV pP aA [3,2]).2.1).getD E v_).getD k 0))))||(!(Z.getD (((((emV pP aA [3,2]).2.1).getD E v_).getD k 0).toNat) false)))=false)=>(Sv.ix (j:=(E:Int)) (SR.sv a_ U) (by(try simp only[BS]at T g2);(first|(dsimp only;omega)|omega|(rw[N];omega))) (by(try simp only[BS]at T g2);(first|(dsimp only;omega)|omega|(rw[N];omega))))) (jv 40 (fun T g2=>(ql 22 0 (hc0 (vL (aw E) (by(try simp only[BS]at T g2);(first|(dsimp only;omega)|omega|(rw[N];omega))))) V V)) (Ha_ (fun(T:(decide ((0:Int)<(k:Int)))=true) (g2:(((decide (((((emV pP aA [3,2]).2.1).getD E v_).getD k 0)<0))||(decide ((Z.length:Int)<=((((emV pP aA [3,2]).2.1).getD E v_).getD k 0))))||(!(Z.getD (((((emV pP aA [3,2]).2.1).getD E v_).getD k 0).toNat) false)))=false)=>(Sv.ix (j:=(k:Int)) (SR.sv ay U) (by(try simp only[BS]at T g2);(first|(dsimp only;omega)|omega|(rw[N];omega))) (by(try simp only[BS]at T g2);(first|(dsimp only;omega)|omega|(rw[N];omega))))) (jv 43 (fun T g2=>(ql 3 0 (hc0 (vI (aq k) (by(try simp only[BS]at T g2);(first|(dsimp only;omega)|omega|(rw[N];omega))))) V V)) (Ha_ (fun(T:(decide ((0:Int)<(k:Int)))=true) (g2:(((decide (((((emV pP aA [3,2]).2.1).getD E v_).getD k 0)<0))||(decide ((Z.length:Int)<=((((emV pP aA [3,2]).2.1).getD E v_).getD k 0))))||(!(Z.getD (((((emV pP aA [3,2]).2.1).getD E v_).getD k 0).toNat) false)))=false)=>(Sv.ix (j:=(E:Int)) (SR.sv a_ U) (by(try simp only[BS]at T g2);(first|(dsimp only;omega)|omega|(rw[N];omega))) (by(try simp only[BS]at T g2);(first|(dsimp only;omega)|omega|(rw[N];omega))))) (jv 47 (fun T g2=>(ql 22 0 (hc0 (vL (aw E) (by(try simp only[BS]at T g2);(first|(dsimp only;omega)|omega|(rw[N];omega))))) V V)) (Ha_ (fun(T:(decide ((0:Int)<(k:Int)))=true) (g2:(((decide (((((emV pP aA [3,2]).2.1).getD E v_).getD k 0)<0))||(decide ((Z.length:Int)<=((((emV pP aA [3,2]).2.1).getD E v_).getD k 0))))||(!(Z.getD (((((emV pP aA [3,2]).2.1).getD E v_).getD k 0).toNat) false)))=false)=>(vi (n:=(k:Int)-1) (by(try simp only[BS]at T g2);(first|(dsimp only;omega)|omega|(rw[N];omega))))) (Ha_ (fun(T:(decide ((0:Int)<(k:Int)))=true) (g2:(((decide (((((emV pP aA [3,2]).2.1).getD E v_).getD k 0)<0))||(decide ((Z.length:Int)<=((((emV pP aA [3,2]).2.1).getD E v_).getD k 0))))||(!(Z.getD (((((emV pP aA [3,2]).2.1).getD E v_).getD k 0).toNat) false)))=false)=>(Sv.ix (j:=(k:Int)-1) (SR.sv ay U) (by(try simp only[BS]at T g2);(first|(dsimp only;omega)|omega|(rw[N];omega))) (by(try simp only[BS]at T g2);(first|(dsimp only;omega)|omega|(rw[N];omega))))) (jv 51 (fun T g2=>(ql 3 0 (hc0 (vI (aq ((k:Int)-1).toNat) (by(try simp only[BS]at T g2);(first|(dsimp only;omega)|omega|(rw[N];omega))))) V V)) Hn_))))))))))))))))))))))) V V V fun _=>?_
   refine bW 2 (v:=((((decide (((((emV pP aA [3,2]).2.1).getD E v_).getD k 0)<0))||(decide ((Z.length:Int)<=((((emV pP aA [3,2]).2.1).getD E v_).getD k 0))))||(!(Z.getD (((((emV pP aA [3,2]).2.1).getD E v_).getD k 0).toNat) false)))||((decide ((0:Int)<(k:Int)))&&(decide (((((emV pP aA [3,2]).2.1).getD E v_).getD k 0)<((((emV pP aA [3,2]).2.1).getD E v_).getD ((k:Int)-1).toNat 0)))))) V (by exact vl_c M go (by first|exact gt|(rw[show((k:Int)-1).toNat=k-1 by omega];exact gt))) V V ?_;refine wU 1 [] 76 77 [14] [(14,(iI ((k:Int)+1)))] (vi (n:=(k:Int)+1) (by first|(dsimp only;omega)|omega|(rw[N];omega))) V fun _=>?_
   refine f0 _ _ _ ?_ ⟨k+1,_,(a4),U,f_,V,r_⟩;omega
  try simp only[BS]at c7
  refine wU 1 [] 55 56 [13] [(13,(iI ((E:Int)+1)))] (vi (n:=(E:Int)+1) (by first|(dsimp only;omega)|omega|(rw[N];omega))) V fun _=>?_
  refine fj _ _ _ ?_ ⟨E+1,_,(fT (av) a4),U,f_,V,r_⟩;omega
 try simp only[BS]at c6
 refine wU 1 [(0,.o (.bool true))] 4 4 [133] [(4,(.bool true))] (ex_c_q 17 (HS.call ap) hT) V fun _=>?_
 refine aj ⟨.inr V,_,V,true,_,(fT (fT (fT (fT (fT (e1) b9) c8) ax) a3) av),(HS.forget ap),V,m_⟩
end lv
end Go.Proofs.YtgdggmlghemecaaGreatDoor
