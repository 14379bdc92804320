/-
 Plain laws: what the functions compute answers as the statement says. No condition beyond those that each statement names.
-/
import Derived.Test.YtknafdcgpaejlaaDoorZENT
import Derived.Test.YtknafdcgpaejlaaDoorZENQ
noncomputable section
namespace Go.Proofs.YtknafdcgpaejlaaDoor.no
open Go.R m1 m2 m3 m4 m5 m6 ma mb mc md mf mg mh mi mj ml na nb nc ni nv nq nt
set_option linter.unusedVariables false
set_option linter.unusedSimpArgs false
theorem ex_lst: ∀(n:Nat) {S:Nat->Prop},(∀r,S r->r<n)->∃l,Lst l S
 |0,S,h=>⟨[],Lst.nil fun r hr=>absurd (h r hr) (a0t _)⟩
 |n+1,S,h=>by
  obtain⟨l,hl⟩:=ex_lst n (S:=fun r=>S r/\r<n) fun r hr=>hr.2
  by_cases hn:S n
  ·exact⟨_,Lst.ext (Lst.snoc hl fun y hy=>hy.2) fun r=>⟨fun A=>A.elim (·.1) fun e=>by rw[e];exact hn,fun A=>by
    rcases a0j r n with E|E
    ·exact .inl ⟨A,E⟩
    exact .inr (by have:=h r A;omega)⟩⟩
  exact⟨_,Lst.ext hl fun r=>⟨(·.1),fun A=>⟨A,by
   rcases a0j r n with E|E
   ·exact E
   have:=h r A;have e:r=n:=by omega
   subst e;exact absurd A hn⟩⟩⟩
theorem lstN_ok{S:Nat->Prop}(n:Nat)(h: ∀r,S r->r<n):Lst (iX S) S:=by have e:=ex_lst n h;unfold iX;rw[dif_pos e];exact e.choose_spec
theorem nat_min{P:Nat->Prop}: ∀n,P n->∃m,P m/\∀k,k<m->¬P k:=fun n=>Nat.strongRecOn n fun n ih h=>by
 by_cases hk: ∃k,k<n/\P k
 ·obtain⟨k,A,E⟩:=hk;exact ih k A E
 exact⟨n,h,fun k A E=>hk ⟨k,A,E⟩⟩
theorem fc_spec{c:VFnT}{r:Nat}(h:acS c r):FirstC c r (fcN c r).1 (fcN c r).2:=by
 obtain⟨b,i,Z,h2,h3⟩:=h;obtain⟨b',⟨T,i',h5,h6⟩,hb⟩:=nat_min (P:=fun b=>b<c.blocks.length/\∃i,i<(aU c b).ins.length/\acI c b i r) b ⟨Z,i,h2,h3⟩;obtain⟨i'',⟨h7,h8⟩,hi⟩:=nat_min (P:=fun i=>i<(aU c b').ins.length/\acI c b' i r) i' ⟨h5,h6⟩;have hf:FirstC c r b' i'':=⟨T,h7,h8,fun V U A E N=>A.elim (fun A=>hb V A ⟨Nat.lt_trans A T,U,E,N⟩) fun A=>hi U A.2 ⟨A.1▸E,A.1▸N⟩⟩
 rw[fc_uniq hf];exact hf
def aL(sl:List SpiT):AllT:=⟨[],sl,0⟩
def WK(c:VFnT)(Q:SpiT->Prop)(E:Int->Prop)(s:SpiT):Prop:=(0<=s.reg/\s.reg<c.regs)/\¬E s.reg/\((s.why=1/\acrJ c s)\/(s.why=2/\preJ c E s)\/(s.why=3/\Q s))
structure Inv(c:VFnT)(Q:SpiT->Prop)(sp:List Bool)(sl:List SpiT):Prop where
 len:sp.length=c.regs.toNat
 cnt:sl.length=sp.count true
 spl:SplE c (aL sl) sp sl.length
 good: ∀k,k<sl.length->WK c Q (iN (aL sl) k) (sl.getD k default)
theorem Inv.imp{c:VFnT}{Q Q':SpiT->Prop}{sp:List Bool}{sl:List SpiT}(h:Inv c Q sp sl)(hq: ∀s,Q s->Q' s):Inv c Q' sp sl:=⟨h.len,h.cnt,h.spl,fun k hk=>by
 obtain⟨E,N,A⟩:=h.good k hk;exact⟨E,N,A.imp id fun A=>A.imp id fun A=>⟨A.1,hq _ A.2⟩⟩⟩
theorem jT{sl:List SpiT}{s:SpiT}{k:Nat}(hk:k<=sl.length):iN (aL (sl++[s])) k=iN (aL sl) k:=funext fun n=>propext ⟨fun⟨j,E,A⟩=>⟨j,E,by
 have:(aL (sl++[s])).spi.getD j default=(aL sl).spi.getD j default:=by show(sl++[s]).getD j default=sl.getD j default;rw[gA,if_neg (by omega)]
 rw[this]at A;exact A⟩,fun⟨j,E,A⟩=>⟨j,E,by
 have:(aL (sl++[s])).spi.getD j default=(aL sl).spi.getD j default:=by show(sl++[s]).getD j default=sl.getD j default;rw[gA,if_neg (by omega)]
 rw[this];exact A⟩⟩
theorem Inv.no{c:VFnT}{Q:SpiT->Prop}{sp:List Bool}{sl:List SpiT}{x:Int}(h:Inv c Q sp sl)(hx:0<=x/\x<c.regs)(hs:sp.getD x.toNat false=false): ¬iN (aL sl) sl.length x:=fun he=>by rw[(ku h.spl hx).2 he]at hs;cases hs
theorem Inv.snoc{c:VFnT}{Q:SpiT->Prop}{sp:List Bool}{sl:List SpiT}{s:SpiT}(h:Inv c Q sp sl)(hr:0<=s.reg/\s.reg<c.regs)(hs:sp.getD s.reg.toNat false=false)(hw:(s.why=1/\acrJ c s)\/(s.why=2/\preJ c (iN (aL sl) sl.length) s)\/(s.why=3/\Q s)):Inv c Q (sp.set s.reg.toNat true) (sl++[s]):=by
 have E:spN (aL (sl++[s])) sl.length=s:=by show(sl++[s]).getD sl.length default=s;rw[gA,if_pos rfl]
 refine⟨a0f.trans h.len,by rw[a05,a1k,lG (by have:=h.len;omega) hs,h.cnt],?_,fun k hk=>?_⟩
 ·have A:SplE c (aL (sl++[s])) sp sl.length:=fun n hn=>by rw[jT (a09 _)];exact h.spl n hn
  have N:=spl_s A h.len (by rw[E];exact hr);rw[E]at N;rw[a05,a1k];exact N
 rw[a05,a1k]at hk;rcases a0j k sl.length with A|A
 ·rw[jT (a1R A),gA,if_neg (by omega)];exact h.good k A
 have e:k=sl.length:=by omega
 subst e;rw[jT (a09 _),gA,if_pos rfl];exact⟨hr,h.no hr hs,hw⟩
def LeB(a b:List Bool):Prop:= ∀n,a.getD n false=true->b.getD n false=true
theorem LeB.set{a:List Bool}{i:Nat}:LeB a (a.set i true):=fun n h=>fK.2 (.inr h)
theorem LeB.trans{a b c:List Bool}(h:LeB a b)(k:LeB b c):LeB a c:=fun n x=>k n (h n x)
theorem acr_of{c:VFnT}{x:Int}(h:acS c x.toNat):acrJ c (acX c x):=by obtain⟨A,E,N,_⟩:=fc_spec h;exact⟨⟨a1n _,A⟩,⟨a1n _,E⟩,rfl,N⟩
theorem acP_ok{c:VFnT}{Q:SpiT->Prop}: ∀(l:List Int) (sp:List Bool) (sl:List SpiT),Asc l->(∀x∈l,(0<=x/\x<c.regs)/\acS c x.toNat/\sp.getD x.toNat false=false)->Inv c Q sp sl->Inv c Q (acP c l (sp,sl)).1 (acP c l (sp,sl)).2/\LeB sp (acP c l (sp,sl)).1/\∀x∈l,(acP c l (sp,sl)).1.getD x.toNat false=true
 | [],sp,sl,_,_,h=>⟨h,fun _ h=>h,fun x hx=>by cases hx⟩
 |x::l,sp,sl,ha,hx,h=>by
  obtain⟨T,U,V⟩:=hx x (a0p ..);have ha':=a1o.1 ha;have Z:=h.snoc (s:=acX c x) T V (.inl ⟨rfl,acr_of U⟩);obtain⟨E,A,N⟩:=acP_ok l (sp.set x.toNat true) (sl++[acX c x]) ha'.2 (fun y hy=>by
   obtain⟨k1,k2,k3⟩:=hx y (a0g _ hy);refine⟨k1,k2,?_⟩;rw[cd,if_neg (fun e=>by have:=ha'.1 y hy;omega)];exact k3) Z
  refine⟨E,LeB.set.trans A,fun y hy=>?_⟩;rcases a0n.1 hy with rfl|hy
  ·exact A _ (fK.2 (.inl ⟨rfl,by have:=h.len;omega⟩))
  exact N y hy
theorem inv_0{c:VFnT}{Q:SpiT->Prop}:Inv c Q (List.replicate c.regs.toNat false) []:=⟨a0x,by rw[List.count_replicate];rfl,fun n hn=>by
 have:=spl_0 (c:=c) (a:=aL []) n hn;exact this,fun k hk=>absurd hk (a0t _)⟩
theorem rep_ff{n r:Nat}:(List.replicate n false).getD r false=false:=by rw[a01,a0R];split<;>rfl
theorem acR_ok{c:VFnT}{Q:SpiT->Prop}(v:VF c):Inv c Q (acR c).1 (acR c).2/\∀r,acS c r->(acR c).1.getD r false=true:=by
 have hl:=lstN_ok (S:=acS c) c.regs.toNat fun r hr=>by have:=iU v (a09 _) hr;omega
 obtain⟨E,_,N⟩:=acP_ok (c:=c) (Q:=Q) (iX (acS c)) (List.replicate c.regs.toNat false) [] hl.asc (fun x hx=>by
  have A:=(hl.mem x).1 hx;have T:=iU v (a09 _) A.2;exact⟨⟨A.1,by omega⟩,A.2,rep_ff⟩) inv_0
 refine⟨E,fun r hr=>?_⟩;have:=N (r:Int) ((hl.mem _).2 ⟨by omega,by rw[show((r:Nat):Int).toNat=r by omega];exact hr⟩);rwa [show((r:Nat):Int).toNat=r by omega]at this
theorem best_mem{w h:List Int}(A:h≠ []):eO w h∈h:=by
 have key: ∀(l:List Int) (b:Int),b∈h->(∀x∈l,x∈h)->l.foldl (ga w) b∈h:=fun l=>by
  induction l with
  |nil=>exact fun b hb _=>hb
  |cons x l ih=>
   intro b hb hx
   refine ih _ ?_ fun y hy=>hx y (a0g _ hy)
   unfold ga
   split
   ·exact hx x (a0p ..)
   exact hb
 exact key h _ (gf (List.length_pos_iff.2 A)) fun x hx=>hx
theorem asc_del{h:List Int}{x:Int}:Asc h->x∈h->(dV h [x]).length+1=h.length:=by
 induction h with
 |nil=>intro _ hx;cases hx
 |cons y h ih=>
  intro ha hx
  have ha':=a1o.1 ha
  unfold dV
  by_cases e:y=x
  ·subst e;have A:(!cH [y] y)=false:=by rw[aW.2 (a0b.2 rfl)];rfl
   rw[a1e,A];have T:h.filter (fun z=> !cH [y] z)=h:=List.filter_eq_self.2 fun z hz=>by
    have E:cH [y] z=false:=by
     cases hc:cH [y] z with
     |false=>rfl
     |true=>
      have N:=a0b.1 (aW.1 hc)
      have V:=ha'.1 z hz
      omega
    rw[E];rfl
   show(h.filter _).length+1=_;rw[T];rfl
  have hx':x∈h:=(a0n.1 hx).elim (fun U=>absurd U.symm e) id
  have A:(!cH [x] y)=true:=by
   have E:cH [x] y=false:=by
    cases hc:cH [x] y with
    |false=>rfl
    |true=>exact absurd (a0b.1 (aW.1 hc)) e
   rw[E];rfl
  rw[a1e,A]
  have N:=ih ha'.2 hx'
  unfold dV at N
  show(y::h.filter _).length+1=(y::h).length
  rw[a0a,a0a,←N]
theorem getD_mem{l:List Int}{k:Nat}(h:k<l.length):l.getD k 0∈l:=gf h
theorem prX_ok{c:VFnT}{Q:SpiT->Prop}(v:VF c){sp:List Bool}{sl:List SpiT}{w:List Int}{b k:Nat}(h:Inv c Q sp sl)(hb:b<c.blocks.length)(hk:k<=(aU c b).ins.length)(N:5<(uns sp (iX (ptS c b k))).length):
  Inv c Q (sp.set (eO w (uns sp (iX (ptS c b k)))).toNat true) (sl++[prX w (uns sp (iX (ptS c b k))) (b:Int) (k:Int)]):=by
 have hl:=lstN_ok (S:=ptS c b k) c.regs.toNat fun r hr=>by have:=cF v hb hr;omega
 generalize hu:uns sp (iX (ptS c b k))=u at*
 have hum: ∀x∈u,(0<=x/\ptS c b k x.toNat)/\sp.getD x.toNat false=false:=fun x hx=>by rw[←hu]at hx;exact⟨(hl.mem x).1 (ld hx).1,(ld hx).2⟩
 have hua:Asc u:=by rw[←hu];exact hl.asc.sublist a1P
 have hne:u≠ []:=fun e=>by rw[e]at N;exact absurd N (by decide)
 have hbm:=best_mem (w:=w) hne
 have hd:=asc_del hua hbm
 obtain⟨⟨U,E⟩,V⟩:=hum _ hbm
 have g4:=cF v hb E
 have hma:Asc (dV u [eO w u]):=hua.sublist a1P
 refine h.snoc (s:=prX w u (b:Int) (k:Int)) ⟨U,show eO w u<c.regs by omega⟩ V (.inr (.inl ⟨rfl,⟨a1n _,hb⟩,⟨a1n _,hk⟩,show 5<=(dV u [eO w u]).length by omega,E,fun q hq=>?_⟩))
 have hq:q<(dV u [eO w u]).length:=hq
 have hm:=a1G.1 (getD_mem hq)
 obtain⟨k1,k2⟩:=hum _ hm.1
 have ad:0<=(dV u [eO w u]).getD q 0:=k1.1
 have k3:(((dV u [eO w u]).getD q 0).toNat:Int)<c.regs:=cF v hb k1.2
 have Z:(dV u [eO w u]).getD q 0≠eO w u:=fun e=>by have A:=hm.2;have T:cH [eO w u] ((dV u [eO w u]).getD q 0)=true:=aW.2 (by rw[e];exact a0b.2 rfl);unfold dV at T A;rw[T]at A;cases A
 exact⟨fun h0=>kU hma (by omega) hq,Z,k1,h.no ⟨k1.1,by show(dV u [eO w u]).getD q 0<c.regs;omega⟩ k2⟩
theorem prW_ok{c:VFnT}{Q:SpiT->Prop}(v:VF c){w:List Int}{b k:Nat}(hb:b<c.blocks.length)(hk:k<=(aU c b).ins.length): ∀(n:Nat) (s:List Bool×List SpiT),Inv c Q s.1 s.2->Inv c Q (prW w (iX (ptS c b k)) (b:Int) (k:Int) n s).1 (prW w (iX (ptS c b k)) (b:Int) (k:Int) n s).2/\LeB s.1 (prW w (iX (ptS c b k)) (b:Int) (k:Int) n s).1
 |0,s,h=>⟨h,fun _ h=>h⟩
 |n+1,s,h=>by
  unfold prW;split
  ·exact⟨h,fun _ h=>h⟩
  rename_i A;have:=prW_ok (w:=w) v hb hk n (s.1.set (eO w (uns s.1 (iX (ptS c b k)))).toNat true,s.2++[prX w (uns s.1 (iX (ptS c b k))) (b:Int) (k:Int)]) (prX_ok (w:=w) v h hb hk (by omega));exact⟨this.1,LeB.set.trans this.2⟩
theorem prK_ok{c:VFnT}{Q:SpiT->Prop}(v:VF c){w:List Int}{b:Nat}(hb:b<c.blocks.length): ∀(m:Nat) (s:List Bool×List SpiT),Inv c Q s.1 s.2->Inv c Q (prK c w b m s).1 (prK c w b m s).2/\LeB s.1 (prK c w b m s).1
 |0,s,h=>⟨h,fun _ h=>h⟩
 |m+1,s,h=>by have A:=prW_ok (w:=w) v hb (Nat.sub_le (aU c b).ins.length m) fuN s h;have E:=prK_ok (w:=w) v hb m _ A.1;exact⟨E.1,A.2.trans E.2⟩
theorem prB_ok{c:VFnT}{Q:SpiT->Prop}(v:VF c){w:List Int}: ∀(m:Nat) (s:List Bool×List SpiT),m<=c.blocks.length->Inv c Q s.1 s.2->Inv c Q (prB c w m s).1 (prB c w m s).2/\LeB s.1 (prB c w m s).1
 |0,s,_,h=>⟨h,fun _ h=>h⟩
 |m+1,s,hm,h=>by have A:=prK_ok (w:=w) v (b:=c.blocks.length-(m+1)) (by omega) ((aU c (c.blocks.length-(m+1))).ins.length+1) s h;have E:=prB_ok (w:=w) v m _ (by omega) A.1;exact⟨E.1,A.2.trans E.2⟩
theorem prR_ok{c:VFnT}{Q:SpiT->Prop}(v:VF c):Inv c Q (prR c).1 (prR c).2/\∀r,acS c r->(prR c).1.getD r false=true:=by have A:=acR_ok (Q:=Q) v;have E:=prB_ok (w:=wN c) v (c.blocks.length-0) (acR c) (Nat.sub_le _ _) A.1;exact⟨E.1,fun r hr=>E.2 r (A.2 r hr)⟩
theorem frM_neg{f:Nat->Int}: ∀(n m:Nat),frM f n m<m+n->f (frM f n m)<0
 |0,m,h=>by unfold frM at h;omega
 |n+1,m,h=>by
  unfold frM at h⊢;split
  ·assumption
  rename_i A;rw[if_neg A]at h;exact frM_neg n (m+1) (by omega)
theorem frM_all{f:Nat->Int}: ∀(n m:Nat),¬frM f n m<m+n->∀j,m<=j->j<m+n->¬f j<0
 |0,m,h,j,A,E=>by omega
 |n+1,m,h,j,A,E=>by
  unfold frM at h;by_cases hm:f m<0
  ·rw[if_pos hm]at h;omega
  rw[if_neg hm]at h;rcases a1X A with N|rfl
  ·exact frM_all n (m+1) (by omega) j N (by omega)
  exact hm
def colQ(c:VFnT)(r:Nat)(sp:List Bool)(ll:List LocT)(s:SpiT):Prop:=s.blk=0/\s.idx=0/\s.oth.length=5/\∀m,m<5->(0<=s.oth.getD m 0/\Sy (eR c) s.reg.toNat (s.oth.getD m 0).toNat)/\(s.oth.getD m 0).toNat<r/\sp.getD (s.oth.getD m 0).toNat false=false/\ll.getD (s.oth.getD m 0).toNat default=⟨false,(m:Int)⟩
theorem Sy.symm'{R:Nat->Nat->Prop}{a b:Nat}(h:Sy R a b):Sy R b a:=h.elim .inr .inl
theorem sy_ne{c:VFnT}{a b:Nat}(h:Sy (eR c) a b):a≠b:=by
 have key: ∀a b,eR c a b->a≠b:=fun a b ⟨_,_,_,_,_,_,A,_⟩ e=>A (by rw[e])
 exact h.elim (key a b) fun h e=>key b a h e.symm
structure CI(c:VFnT)(r:Nat)(s:List Bool×List LocT×List SpiT):Prop where
 inv:Inv c (colQ c r s.1 s.2.1) s.1 s.2.2
 lll:s.2.1.length=c.regs.toNat
 ns: ∀y,(s.2.1.getD y default).inS=false
 rng: ∀y,0<=(s.2.1.getD y default).idx/\(s.2.1.getD y default).idx<5
 clr: ∀y z,y<r->z<r->s.1.getD y false=false->s.1.getD z false=false->Sy (eR c) y z->(s.2.1.getD y default).idx≠(s.2.1.getD z default).idx
theorem own_none{c:VFnT}{sp:List Bool}{ll:List LocT}{r m:Nat}(hl:Lst (iX (Sy (eR c) r)) (Sy (eR c) r))(h:owF c sp ll r m<0){y:Nat}(hy:Sy (eR c) r y)(hr:y<r)(hs:sp.getD y false=false):(ll.getD y default).idx≠(m:Int):=fun e=>by
 unfold owF ownV at h;rcases hf:(iX (Sy (eR c) r)).find? (hasP sp ll r (m:Int)) with _|z
 ·have A:=List.find?_eq_none.1 hf (y:Int) ((hl.mem _).2 ⟨by omega,by rw[show((y:Nat):Int).toNat=y by omega];exact hy⟩);refine A ?_;unfold hasP;rw[show((y:Nat):Int).toNat=y by omega,hs,e,decide_eq_true (by omega:(y:Int)<(r:Int))];simp
 have A:=((hl.mem z).1 (List.mem_of_find?_eq_some hf)).1;rw[hf]at h;have:z<0:=h;omega
theorem own_some{c:VFnT}{sp:List Bool}{ll:List LocT}{r m:Nat}(hl:Lst (iX (Sy (eR c) r)) (Sy (eR c) r))(h: ¬owF c sp ll r m<0):(0<=owF c sp ll r m/\Sy (eR c) r (owF c sp ll r m).toNat)/\(owF c sp ll r m).toNat<r/\sp.getD (owF c sp ll r m).toNat false=false/\(ll.getD (owF c sp ll r m).toNat default).idx=(m:Int):=by
 unfold owF ownV at h⊢;rcases hf:(iX (Sy (eR c) r)).find? (hasP sp ll r (m:Int)) with _|z
 ·rw[hf]at h;exact absurd (by decide) h
 have E:=(hl.mem z).1 (List.mem_of_find?_eq_some hf);have A:=List.find?_some hf;unfold hasP at A;rw[a0d,a0d,decide_eq_true_eq,decide_eq_true_eq,a0G]at A;refine⟨E,?_,A.2.1,A.2.2⟩;show z.toNat<r;omega
theorem colQ_up{c:VFnT}{r:Nat}{sp:List Bool}{ll:List LocT}{s:SpiT}(h:colQ c r sp ll s):colQ c (r+1) sp ll s:=⟨h.1,h.2.1,h.2.2.1,fun m hm=>by
 obtain⟨A,N,E⟩:=h.2.2.2 m hm;exact⟨A,by omega,E⟩⟩
theorem coS_ok{c:VFnT}(v:VF c){r:Nat}{s:List Bool×List LocT×List SpiT}(hr:r<c.regs.toNat)(h:CI c r s):CI c (r+1) (coS c r s)/\LeB s.1 (coS c r s).1:=by
 have hl:=lstN_ok (S:=Sy (eR c) r) c.regs.toNat fun y hy=>by have:=iE v hy;omega
 obtain⟨sp,ll,sl⟩:=s;have hlen:sp.length=c.regs.toNat:=h.inv.len;have hlll:ll.length=c.regs.toNat:=h.lll;unfold coS;split
 ·rename_i hs;refine⟨⟨h.inv.imp fun s=>colQ_up,h.lll,h.ns,h.rng,fun y z hy hz N Z h3=>?_⟩,fun _ h=>h⟩;have hy':y≠r:=fun e=>by subst e;rw[hs]at N;cases N
  have hz':z≠r:=fun e=>by subst e;rw[hs]at Z;cases Z
  exact h.clr y z (by omega) (by omega) N Z h3
 rename_i hs;have hs:sp.getD r false=false:=by simpa using hs
 split
 ·rename_i hk;have hk:frM (owF c sp ll r) 5 0<5:=hk;have hneg:owF c sp ll r (frM (owF c sp ll r) 5 0)<0:=frM_neg 5 0 (by omega);generalize frM (owF c sp ll r) 5 0=k at hk hneg⊢;have hg: ∀y,(ll.set r ⟨false,(k:Int)⟩).getD y default=if y=r then⟨false,(k:Int)⟩ else ll.getD y default:=fun y=>by
   rw[cd];by_cases e:r=y
   ·subst e;rw[if_pos ⟨rfl,by omega⟩,if_pos rfl]
   rw[if_neg (fun h=>e h.1),if_neg (fun h=>e h.symm)]
  refine⟨⟨h.inv.imp fun s A=>⟨A.1,A.2.1,A.2.2.1,fun m hm=>?_⟩,a0f.trans h.lll,fun y=>?_,fun y=>?_,fun y z hy hz N Z h3=>?_⟩,fun _ h=>h⟩
  ·obtain⟨E,T,U,V⟩:=A.2.2.2 m hm;refine⟨E,by omega,U,?_⟩;show(ll.set r ⟨false,(k:Int)⟩).getD _ default=_;rw[hg,if_neg (by omega)];exact V
  ·show((ll.set r ⟨false,(k:Int)⟩).getD y default).inS=false;rw[hg];split
   ·rfl
   exact h.ns y
  ·show 0<=((ll.set r ⟨false,(k:Int)⟩).getD y default).idx/\((ll.set r ⟨false,(k:Int)⟩).getD y default).idx<5;rw[hg];split
   ·exact⟨a1n _,by show(k:Int)<5;omega⟩
   exact h.rng y
  show((ll.set r ⟨false,(k:Int)⟩).getD y default).idx≠((ll.set r ⟨false,(k:Int)⟩).getD z default).idx;have hne:=sy_ne h3;rw[hg,hg];by_cases ey:y=r
  ·subst ey;rw[if_pos rfl,if_neg (fun e=>hne e.symm)];exact fun e=>own_none hl hneg h3 (by omega) Z e.symm
  rw[if_neg ey];by_cases ez:z=r
  ·subst ez;rw[if_pos rfl];exact own_none hl hneg (Sy.symm' h3) (by omega) N
  rw[if_neg ez];exact h.clr y z (by omega) (by omega) N Z h3
 rename_i hk;have hk: ¬frM (owF c sp ll r) 5 0<5:=hk;have hall: ∀j,j<5->¬owF c sp ll r j<0:=fun j hj=>frM_all 5 0 (by omega) j (a0C _) (by omega)
 have hset: ∀y,y≠r->(sp.set r true).getD y false=sp.getD y false:=fun y hy=>by rw[cd,if_neg (fun e=>hy e.1.symm)]
 have hget: ∀m,m<5->(coX c sp ll r).oth.getD m 0=owF c sp ll r m:=fun m hm=>by show((List.range 5).map (owF c sp ll r)).getD m 0=_;rw[a01,a1g,List.getElem?_range hm];rfl
 have hcol:colQ c (r+1) (sp.set r true) ll (coX c sp ll r):=⟨rfl,rfl,by show((List.range 5).map _).length=5;rw[a1B,List.length_range],fun m hm=>by
  obtain⟨E,T,U,V⟩:=own_some hl (hall m hm);rw[hget m hm];refine⟨⟨E.1,?_⟩,by omega,by rw[hset _ (by omega)];exact U,?_⟩
  ·show Sy (eR c) ((r:Nat):Int).toNat _;rw[show((r:Nat):Int).toNat=r by omega];exact E.2
  have g5:=h.ns (owF c sp ll r m).toNat;have g5:(ll.getD (owF c sp ll r m).toNat default).inS=false:=g5;generalize ll.getD (owF c sp ll r m).toNat default=x at V g5⊢;obtain⟨a,b⟩:=x;simp only at V g5;rw[V,g5]⟩
 have h0:Inv c (colQ c (r+1) (sp.set r true) ll) sp sl:=h.inv.imp fun s A=>⟨A.1,A.2.1,A.2.2.1,fun m hm=>by
  obtain⟨E,T,U,V⟩:=A.2.2.2 m hm;exact⟨E,by omega,by rw[hset _ (by omega)];exact U,V⟩⟩
 have e:(coX c sp ll r).reg.toNat=r:=by show((r:Nat):Int).toNat=r;omega
 have N:=h0.snoc (s:=coX c sp ll r) ⟨a1n _,by show(r:Int)<c.regs;omega⟩ (by rw[e];exact hs) (.inr (.inr ⟨rfl,hcol⟩));rw[e]at N;refine⟨⟨N,h.lll,h.ns,h.rng,fun y z hy hz E T U=>?_⟩,LeB.set⟩;have hy':y≠r:=fun e=>by subst e;have E:(sp.set y true).getD y false=false:=E;rw[fK.2 (.inl ⟨rfl,by omega⟩)]at E;cases E
 have hz':z≠r:=fun e=>by subst e;have T:(sp.set z true).getD z false=false:=T;rw[fK.2 (.inl ⟨rfl,by omega⟩)]at T;cases T
 exact h.clr y z (by omega) (by omega) (by rw[←hset y hy'];exact E) (by rw[←hset z hz'];exact T) U
theorem coV_ok{c:VFnT}(v:VF c): ∀(n:Nat) (s:List Bool×List LocT×List SpiT),n<=c.regs.toNat->CI c (c.regs.toNat-n) s->CI c c.regs.toNat (coV c n s)/\LeB s.1 (coV c n s).1
 |0,s,_,h=>⟨h,fun _ h=>h⟩
 |n+1,s,hn,h=>by have A:=coS_ok v (r:=c.regs.toNat-(n+1)) (by omega) h;rw[show c.regs.toNat-(n+1)+1=c.regs.toNat-n by omega]at A;have E:=coV_ok v n _ (by omega) A.1;exact⟨E.1,A.2.trans E.2⟩
theorem rl_d{n:Nat}{y:Nat}:(List.replicate n (default:LocT)).getD y default=⟨false,0⟩:=by rw[a01,a0R];split<;>rfl
theorem coR_ok{c:VFnT}(v:VF c):CI c c.regs.toNat (coR c)/\∀r,acS c r->(coR c).1.getD r false=true:=by
 have A:=prR_ok (Q:=colQ c 0 (prR c).1 (List.replicate c.regs.toNat default)) v;have N:CI c (c.regs.toNat-(c.regs.toNat-0)) ((prR c).1,List.replicate c.regs.toNat default,(prR c).2):=by
  rw[show c.regs.toNat-(c.regs.toNat-0)=0 by omega];refine⟨A.1,a0x,fun y=>?_,fun y=>?_,fun y z hy=>absurd hy (a0t _)⟩
  ·show((List.replicate c.regs.toNat (default:LocT)).getD y default).inS=false;rw[rl_d]
  show 0<=((List.replicate c.regs.toNat (default:LocT)).getD y default).idx/\_;rw[rl_d];decide
 have E:=coV_ok v (c.regs.toNat-0) _ (Nat.sub_le _ _) N;exact⟨E.1,fun r hr=>E.2 r (A.2 r hr)⟩
structure FI(c:VFnT)(sp:List Bool)(ll:List LocT)(r:Nat)(s:List LocT×Int):Prop where
 len:s.1.length=c.regs.toNat
 sz:c.params<=s.2/\s.2<=c.params+r
 new: ∀y,y<r->sp.getD y false=true->(s.1.getD y default).inS=true/\c.params<=(s.1.getD y default).idx/\(s.1.getD y default).idx<s.2
 dis: ∀y z,y<r->z<r->y≠z->sp.getD y false=true->sp.getD z false=true->(s.1.getD y default).idx≠(s.1.getD z default).idx
 old: ∀y,r<=y\/sp.getD y false=false->s.1.getD y default=ll.getD y default
theorem fiS_ok{c:VFnT}{sp:List Bool}{ll:List LocT}{r:Nat}{s:List LocT×Int}(hr:r<c.regs.toNat)(h:FI c sp ll r s):FI c sp ll (r+1) (fiS sp r s):=by
 obtain⟨lf,z⟩:=s;have hlen:lf.length=c.regs.toNat:=h.len;have hz:c.params<=z/\z<=c.params+r:=h.sz;unfold fiS;split
 ·rename_i hs;have hg: ∀y,(lf.set r ⟨true,z⟩).getD y default=if y=r then⟨true,z⟩ else lf.getD y default:=fun y=>by
   rw[cd];by_cases e:r=y
   ·subst e;rw[if_pos ⟨rfl,by omega⟩,if_pos rfl]
   rw[if_neg (fun h=>e h.1),if_neg (fun h=>e h.symm)]
  refine⟨a0f.trans h.len,⟨by show c.params<=z+1;omega,by show z+1<=c.params+((r+1:Nat):Int);omega⟩,fun y hy A=>?_,fun y w hy hw hne A E=>?_,fun y hy=>?_⟩
  ·show((lf.set r ⟨true,z⟩).getD y default).inS=true/\c.params<=((lf.set r ⟨true,z⟩).getD y default).idx/\((lf.set r ⟨true,z⟩).getD y default).idx<z+1;rw[hg];by_cases e:y=r
   ·rw[if_pos e];exact⟨rfl,hz.1,by show z<z+1;omega⟩
   rw[if_neg e];obtain⟨U,V,N⟩:=h.new y (by omega) A;have N:(lf.getD y default).idx<z:=N;exact⟨U,V,by omega⟩
  ·show((lf.set r ⟨true,z⟩).getD y default).idx≠((lf.set r ⟨true,z⟩).getD w default).idx;rw[hg,hg];by_cases e:y=r
   ·subst e;rw[if_pos rfl,if_neg (fun e=>hne e.symm)];have N:(lf.getD w default).idx<z:=(h.new w (by omega) E).2.2;show z≠_;omega
   rw[if_neg e];by_cases T:w=r
   ·subst T;rw[if_pos rfl];have N:(lf.getD y default).idx<z:=(h.new y (by omega) A).2.2;show _≠z;omega
   rw[if_neg T];exact h.dis y w (by omega) (by omega) hne A E
  show(lf.set r ⟨true,z⟩).getD y default=_;have e:y≠r:=fun e=>by
   subst e;rcases hy with hy|hy
   ·omega
   rw[hs]at hy;cases hy
  rw[hg,if_neg e];exact h.old y (hy.imp (fun h=>by omega) id)
 rename_i hs;have hs:sp.getD r false=false:=by simpa using hs
 have hne: ∀y,sp.getD y false=true->y≠r:=fun y hy e=>by subst e;rw[hs]at hy;cases hy
 refine⟨h.len,⟨hz.1,by show z<=c.params+((r+1:Nat):Int);omega⟩,fun y hy A=>h.new y (by have:=hne y A;omega) A,fun y w hy hw hn A E=>h.dis y w (by have:=hne y A;omega) (by have:=hne w E;omega) hn A E,fun y hy=>h.old y ?_⟩;by_cases e:y=r
 ·subst e;exact .inr hs
 exact hy.imp (fun h=>by omega) id
theorem fiV_ok{c:VFnT}{sp:List Bool}{ll:List LocT}: ∀(n:Nat) (s:List LocT×Int),n<=c.regs.toNat->FI c sp ll (c.regs.toNat-n) s->FI c sp ll c.regs.toNat (fiV c sp n s)
 |0,s,_,h=>h
 |n+1,s,hn,h=>by have A:=fiS_ok (r:=c.regs.toNat-(n+1)) (by omega) h;rw[show c.regs.toNat-(n+1)+1=c.regs.toNat-n by omega]at A;exact fiV_ok n _ (by omega) A
theorem fiR_ok{c:VFnT}(v:VF c):FI c (coR c).1 (coR c).2.1 c.regs.toNat (fiR c):=by have h:=(coR_ok v).1;refine fiV_ok (c.regs.toNat-0) _ (Nat.sub_le _ _) ?_;rw[show c.regs.toNat-(c.regs.toNat-0)=0 by omega];exact⟨h.lll,⟨Int.le_refl _,by show c.params<=c.params+((0:Nat):Int);omega⟩,fun y hy=>absurd hy (a0t _),fun y z hy=>absurd hy (a0t _),fun y _=>rfl⟩
theorem all_good{c:VFnT}{a:AllT}{e:Int}(h:(a,e)=allV c)(hv:bJ c=true)(hz: ∀r,¬ptS c 0 0 r)(hs:c.params+c.regs<=3000):e=0/\SndP c a/\JstG c a/\a.locs.length=c.regs.toNat/\a.spi.length<=c.regs.toNat:=by
 have v:=eT hv;have hreg:=v.regs;have hpar:=v.params;have hC:=coR_ok v;have hF:=fiR_ok v;have hsz:=hF.sz;have hA:allV c=(⟨(fiR c).1,(coR c).2.2,(fiR c).2⟩,0):=all_ok hv hz rfl rfl (by omega);rw[hA]at h;obtain⟨E,h2⟩:=Prod.mk.inj h;subst E h2;have hlen:(fiR c).1.length=c.regs.toNat:=hF.len;have hin: ∀y,y<c.regs.toNat->(((fiR c).1.getD y default).inS=true↔(coR c).1.getD y false=true):=fun y hy=>by
  cases hb:(coR c).1.getD y false with
  |true=>exact⟨(fun _=>rfl),fun _=>(hF.new y hy hb).1⟩
  |false=>
   rw[hF.old y (.inr hb)]
   exact⟨(fun h=>by rw[hC.1.ns y]at h;cases h),fun h=>by cases h⟩
 have hsl:=hC.1.inv.spl;refine⟨rfl,⟨hv,by show((fiR c).1.length:Int)=c.regs;omega,hsz.1,by show(fiR c).2<=3000;omega,hz,fun q hq=>?_,fun q y hq hy=>?_,fun r hr=>?_⟩,⟨hv,by show((fiR c).1.length:Int)=c.regs;omega,fun k hk=>?_,fun r hr hi=>?_⟩,hlen,?_⟩
 ·have hq:q<c.regs.toNat:=by rw[←hlen];exact hq
  show okL c _ ((fiR c).1.getD q default);refine⟨fun hi=>(hF.new q hq ((hin q hq).1 hi)).2,fun hi=>?_⟩;have hb:(coR c).1.getD q false=false:=by
   cases hb:(coR c).1.getD q false with
   |false=>rfl
   |true=>rw[(hin q hq).2 hb]at hi;cases hi
  rw[hF.old q (.inr hb)];exact hC.1.rng q
 ·have hq:q<c.regs.toNat:=by rw[←hlen];exact hq
  have T:y<c.regs.toNat:=by have:=iE v hy;omega
  show(fiR c).1.getD q default≠(fiR c).1.getD y default;intro e;have hne:=sy_ne hy;cases hb:(coR c).1.getD q false with
  |true=>
   have E:=(hin q hq).2 hb
   rw[e]at E
   exact hF.dis q y hq T hne hb ((hin y T).1 E) (congrArg LocT.idx e)
  |false=>
   have E: ¬((fiR c).1.getD q default).inS=true:=fun h=>by rw[(hin q hq).1 h]at hb;cases hb
   rw[e]at E
   have N:(coR c).1.getD y false=false:=by
    cases N:(coR c).1.getD y false with
    |false=>rfl
    |true=>exact absurd ((hin y T).2 N) E
   rw[hF.old q (.inr hb),hF.old y (.inr N)]at e
   exact hC.1.clr q y hq T hb N hy (congrArg LocT.idx e)
 ·have:=iU v (a09 _) hr;exact(hin r (by omega)).2 (hC.2 r hr)
 ·obtain⟨U,Z,A⟩:=hC.1.inv.good k hk;have g4:(coR c).1.getD ((coR c).2.2.getD k default).reg.toNat false=true:=(ku hsl U).2 ⟨k,hk,rfl⟩;have V:((coR c).2.2.getD k default).reg.toNat<c.regs.toNat:=by have:=U.1;have:=U.2;omega
  refine⟨U,Z,(hin _ V).2 g4,A.imp id fun A=>A.imp id fun A=>⟨A.1,A.2.1,A.2.2.1,A.2.2.2.1,fun m hm=>?_⟩⟩;have e5:((coR c).2.2.getD k default).oth.length=5:=A.2.2.2.1;have hm:m<((coR c).2.2.getD k default).oth.length:=hm;obtain⟨k1,k2,k3,k4⟩:=A.2.2.2.2 m (by omega);exact⟨k1,(hF.old _ (.inr k3)).trans k4⟩
 ·have hr:r<c.regs.toNat:=by rw[←hlen];exact hr
  exact(hsl r hr).1 ((hin r hr).1 hi)
 show(coR c).2.2.length<=c.regs.toNat;rw[hC.1.inv.cnt,←hC.1.inv.len];exact a2b
def SpO(sl:List SpiT):Prop:= ∀s∈sl,s.oth.length<=3000
theorem lp{sl:List SpiT}{x:SpiT}(h:SpO sl)(hx:x.oth.length<=3000):SpO (sl++[x]):=fun s hs=>by
 rw[a08,a0b]at hs;rcases hs with hs|rfl
 ·exact h s hs
 exact hx
theorem acP_oth{c:VFnT}: ∀(l:List Int) (s:List Bool×List SpiT),SpO s.2->SpO (acP c l s).2
 | [],_,h=>h
 |x::l,s,h=>acP_oth l _ (lp h (a0C _))
theorem lstN_len{c:VFnT}{S:Nat->Prop}(hr:0<=c.regs/\c.regs<=3000)(h: ∀r,S r->(r:Int)<c.regs):(iX S).length<=3000:=by
 unfold iX;split
 ·rename_i e;have:=Lst.len e.choose_spec hr.1 h;omega
 exact a0C _
theorem prW_oth{w row:List Int}{b k:Int}(hr:row.length<=3000): ∀(n:Nat) (s:List Bool×List SpiT),SpO s.2->SpO (prW w row b k n s).2
 |0,_,h=>h
 |n+1,s,h=>by
  unfold prW;split
  ·exact h
  refine prW_oth hr n _ (lp h ?_);exact a0c (a13 _ _) (a0c jv hr)
theorem prK_oth{c:VFnT}{w:List Int}{b:Nat}(v:VF c)(hb:b<c.blocks.length): ∀(n:Nat) (s:List Bool×List SpiT),SpO s.2->SpO (prK c w b n s).2
 |0,_,h=>h
 |n+1,s,h=>prK_oth v hb n _ (prW_oth (lstN_len v.regs fun r h=>cF v hb h) fuN s h)
theorem prB_oth{c:VFnT}{w:List Int}(v:VF c): ∀(n:Nat) (s:List Bool×List SpiT),n<=c.blocks.length->SpO s.2->SpO (prB c w n s).2
 |0,_,_,h=>h
 |n+1,s,hn,h=>prB_oth v n _ (by omega) (prK_oth v (by omega) _ s h)
theorem coS_oth{c:VFnT}{r:Nat}{s:List Bool×List LocT×List SpiT}(h:SpO s.2.2):SpO (coS c r s).2.2:=by
 unfold coS;split
 ·exact h
 split
 ·exact h
 exact lp h (by unfold coX;simp)
theorem coV_oth{c:VFnT}: ∀(n:Nat) (s:List Bool×List LocT×List SpiT),SpO s.2.2->SpO (coV c n s).2.2
 |0,_,h=>h
 |n+1,s,h=>coV_oth n _ (coS_oth h)
theorem all_oth(c:VFnT):SpO (allV c).1.spi:=by
 have z:SpO []:=fun s h=>by cases h
 unfold allV;split
 ·rename_i hv;split
  ·exact z
  split
  ·exact z
  exact coV_oth _ _ (prB_oth (eT hv) _ _ (Nat.sub_le _ _) (acP_oth _ _ z))
 exact z
theorem al_oth{x:AllT}{e:Int}{c:VFnT}(h:(x,e)=allV c)(j:Nat):(x.spi.getD j default).oth.length<=3000:=by
 have A:x=(allV c).1:=congrArg Prod.fst h;rw[A,a01];rcases hk:(allV c).1.spi[j]? with _|s
 ·exact a0C _
 exact all_oth c s (a0k hk)
end Go.Proofs.YtknafdcgpaejlaaDoor.no
