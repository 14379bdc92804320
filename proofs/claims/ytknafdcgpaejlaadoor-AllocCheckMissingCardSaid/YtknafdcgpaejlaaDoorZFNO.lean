/-
Plain laws: what the functions compute answers as the statement says. No condition beyond those that each statement names.
-/
import Derived.Test.YtknafdcgpaejlaaDoorZFNT
import Derived.Test.YtknafdcgpaejlaaDoorZFNQ
noncomputable section
namespace Go.Proofs.YtknafdcgpaejlaaDoor.no
open Go.R m1 m2 m3 m4 m5 m6 ma mb mc md mf mg mh mi mj ml na nb nc ni nv nq nt
set_option linter.unusedVariables false
set_option linter.unusedSimpArgs false
theorem ex_lst: ∀(n:Nat) {S:Nat->Prop},(∀r,S r->r<n)->∃l,Lst l S
 |0,S,h=>⟨[],Lst.nil fun r z=>absurd (h r z) (a0u _)⟩
 |n+1,S,h=>by
  obtain⟨l,N⟩:=ex_lst n (S:=fun r=>S r/\r<n) fun r z=>z.2
  by_cases T:S n
  ·exact⟨_,Lst.ext (Lst.snoc N fun y U=>U.2) fun r=>⟨fun A=>A.elim (·.1) fun e=>by rw[e];exact T,fun A=>by
    rcases a0k r n with E|E
    ·exact .inl ⟨A,E⟩
    exact .inr (by have:=h r A;omega)⟩⟩
  exact⟨_,Lst.ext N fun r=>⟨(·.1),fun A=>⟨A,by
   rcases a0k r n with E|E
   ·exact E
   have:=h r A;have e:r=n:=by omega
   subst e;exact absurd A T⟩⟩⟩
theorem lstN_ok{S:Nat->Prop}(n:Nat)(h: ∀r,S r->r<n):Lst (iW S) S:=by have e:=ex_lst n h;unfold iW;rw[dif_pos e];exact e.choose_spec
theorem nat_min{P:Nat->Prop}: ∀n,P n->∃m,P m/\∀k,k<m->¬P k:=fun n=>Nat.strongRecOn n fun n N h=>by
 by_cases z: ∃k,k<n/\P k
 ·obtain⟨k,A,E⟩:=z;exact N k A E
 exact⟨n,h,fun k A E=>z ⟨k,A,E⟩⟩
theorem fc_spec{c:VFnT}{r:Nat}(h:acS c r):FirstC c r (fcN c r).1 (fcN c r).2:=by
 obtain⟨b,i,Z,h2,h3⟩:=h;obtain⟨z,⟨T,i',h5,h6⟩,hb⟩:=nat_min (P:=fun b=>b<c.blocks.length/\∃i,i<(aR c b).ins.length/\acI c b i r) b ⟨Z,i,h2,h3⟩;obtain⟨ag,⟨h7,h8⟩,hi⟩:=nat_min (P:=fun i=>i<(aR c z).ins.length/\acI c z i r) i' ⟨h5,h6⟩;have hf:FirstC c r z ag:=⟨T,h7,h8,fun V U A E N=>A.elim (fun A=>hb V A ⟨Nat.lt_trans A T,U,E,N⟩) fun A=>hi U A.2 ⟨A.1▸E,A.1▸N⟩⟩
 rw[fc_uniq hf];exact hf
def aL(z:List SpiT):AllT:=⟨[],z,0⟩
def WK(c:VFnT)(Q:SpiT->Prop)(E:Int->Prop)(s:SpiT):Prop:=(0<=s.reg/\s.reg<c.regs)/\¬E s.reg/\((s.why=1/\acrJ c s)\/(s.why=2/\preJ c E s)\/(s.why=3/\Q s))
structure Inv(c:VFnT)(Q:SpiT->Prop)(sp:List Bool)(sl:List SpiT):Prop where
 len:sp.length=c.regs.toNat
 cnt:sl.length=sp.count true
 spl:SplE c (aL sl) sp sl.length
 good: ∀k,k<sl.length->WK c Q (iM (aL sl) k) (sl.getD k default)
theorem Inv.imp{c:VFnT}{Q z:SpiT->Prop}{U:List Bool}{T:List SpiT}(h:Inv c Q U T)(Z: ∀s,Q s->z s):Inv c z U T:=⟨h.len,h.cnt,h.spl,fun k V=>by
 obtain⟨E,N,A⟩:=h.good k V;exact⟨E,N,A.imp id fun A=>A.imp id fun A=>⟨A.1,Z _ A.2⟩⟩⟩
theorem jT{z:List SpiT}{s:SpiT}{k:Nat}(N:k<=z.length):iM (aL (z++[s])) k=iM (aL z) k:=funext fun n=>propext ⟨fun⟨j,E,A⟩=>⟨j,E,by
 have:(aL (z++[s])).spi.getD j default=(aL z).spi.getD j default:=by show(z++[s]).getD j default=z.getD j default;rw[eA,if_neg (by omega)]
 rw[this]at A;exact A⟩,fun⟨j,E,A⟩=>⟨j,E,by
 have:(aL (z++[s])).spi.getD j default=(aL z).spi.getD j default:=by show(z++[s]).getD j default=z.getD j default;rw[eA,if_neg (by omega)]
 rw[this];exact A⟩⟩
theorem Inv.no{c:VFnT}{Q:SpiT->Prop}{A:List Bool}{z:List SpiT}{x:Int}(h:Inv c Q A z)(N:0<=x/\x<c.regs)(hs:A.getD x.toNat false=false): ¬iM (aL z) z.length x:=fun E=>by rw[(ku h.spl N).2 E]at hs;cases hs
theorem Inv.snoc{c:VFnT}{Q:SpiT->Prop}{T:List Bool}{z:List SpiT}{s:SpiT}(h:Inv c Q T z)(U:0<=s.reg/\s.reg<c.regs)(hs:T.getD s.reg.toNat false=false)(hw:(s.why=1/\acrJ c s)\/(s.why=2/\preJ c (iM (aL z) z.length) s)\/(s.why=3/\Q s)):Inv c Q (T.set s.reg.toNat true) (z++[s]):=by
 have E:spN (aL (z++[s])) z.length=s:=by show(z++[s]).getD z.length default=s;rw[eA,if_pos rfl]
 refine⟨a0g.trans h.len,by rw[a04,a1b,lI (by have:=h.len;omega) hs,h.cnt],?_,fun k V=>?_⟩
 ·have A:SplE c (aL (z++[s])) T z.length:=fun n Z=>by rw[jT (a0a _)];exact h.spl n Z
  have N:=spl_s A h.len (by rw[E];exact U);rw[E]at N;rw[a04,a1b];exact N
 rw[a04,a1b]at V;rcases a0k k z.length with A|A
 ·rw[jT (a1C A),eA,if_neg (by omega)];exact h.good k A
 have e:k=z.length:=by omega
 subst e;rw[jT (a0a _),eA,if_pos rfl];exact⟨U,h.no U hs,hw⟩
def LeB(a b:List Bool):Prop:= ∀n,a.getD n false=true->b.getD n false=true
theorem LeB.set{a:List Bool}{i:Nat}:LeB a (a.set i true):=fun n h=>fO.2 (.inr h)
theorem LeB.trans{a b c:List Bool}(h:LeB a b)(k:LeB b c):LeB a c:=fun n x=>k n (h n x)
theorem acr_of{c:VFnT}{x:Int}(h:acS c x.toNat):acrJ c (acX c x):=by obtain⟨A,E,N,_⟩:=fc_spec h;exact⟨⟨a1o _,A⟩,⟨a1o _,E⟩,rfl,N⟩
theorem acP_ok{c:VFnT}{Q:SpiT->Prop}: ∀(l:List Int) (z:List Bool) (sl:List SpiT),Asc l->(∀x∈l,(0<=x/\x<c.regs)/\acS c x.toNat/\z.getD x.toNat false=false)->Inv c Q z sl->Inv c Q (acP c l (z,sl)).1 (acP c l (z,sl)).2/\LeB z (acP c l (z,sl)).1/\∀x∈l,(acP c l (z,sl)).1.getD x.toNat false=true
 | [],z,sl,_,_,h=>⟨h,fun _ h=>h,fun x hx=>by cases hx⟩
 |x::l,z,sl,ha,hx,h=>by
  obtain⟨T,U,V⟩:=hx x (a0r ..);have al:=a1p.1 ha;have Z:=h.snoc (s:=acX c x) T V (.inl ⟨rfl,acr_of U⟩);obtain⟨E,A,N⟩:=acP_ok l (z.set x.toNat true) (sl++[acX c x]) al.2 (fun y hy=>by
   obtain⟨k1,k2,k3⟩:=hx y (a0h _ hy);refine⟨k1,k2,?_⟩;rw[b8,if_neg (fun e=>by have:=al.1 y hy;omega)];exact k3) Z
  refine⟨E,LeB.set.trans A,fun y hy=>?_⟩;rcases a0m.1 hy with rfl|hy
  ·exact A _ (fO.2 (.inl ⟨rfl,by have:=h.len;omega⟩))
  exact N y hy
theorem inv_0{c:VFnT}{Q:SpiT->Prop}:Inv c Q (List.replicate c.regs.toNat false) []:=⟨a0z,by rw[List.count_replicate];rfl,fun n A=>by
 have:=spl_0 (c:=c) (a:=aL []) n A;exact this,fun k z=>absurd z (a0u _)⟩
theorem rep_ff{n r:Nat}:(List.replicate n false).getD r false=false:=by rw[a01,a0R];split<;>rfl
theorem acR_ok{c:VFnT}{Q:SpiT->Prop}(v:VF c):Inv c Q (acR c).1 (acR c).2/\∀r,acS c r->(acR c).1.getD r false=true:=by
 have z:=lstN_ok (S:=acS c) c.regs.toNat fun r U=>by have:=iT v (a0a _) U;omega
 obtain⟨E,_,N⟩:=acP_ok (c:=c) (Q:=Q) (iW (acS c)) (List.replicate c.regs.toNat false) [] z.asc (fun x V=>by
  have A:=(z.mem x).1 V;have T:=iT v (a0a _) A.2;exact⟨⟨A.1,by omega⟩,A.2,rep_ff⟩) inv_0
 refine⟨E,fun r U=>?_⟩;have:=N (r:Int) ((z.mem _).2 ⟨by omega,by rw[show((r:Nat):Int).toNat=r by omega];exact U⟩);rwa [show((r:Nat):Int).toNat=r by omega]at this
theorem best_mem{w h:List Int}(A:h≠ []):eM w h∈h:=by
 have key: ∀(l:List Int) (b:Int),b∈h->(∀x∈l,x∈h)->l.foldl (ge w) b∈h:=fun l=>by
  induction l with
  |nil=>exact fun b E _=>E
  |cons x l ih=>
   intro b E z
   refine ih _ ?_ fun y N=>z y (a0h _ N)
   unfold ge
   split
   ·exact z x (a0r ..)
   exact E
 exact key h _ (gg (List.length_pos_iff.2 A)) fun x z=>z
theorem asc_del{h:List Int}{x:Int}:Asc h->x∈h->(dR h [x]).length+1=h.length:=by
 induction h with
 |nil=>intro _ hx;cases hx
 |cons y h ih=>
  intro ha hx
  have Z:=a1p.1 ha
  unfold dR
  by_cases e:y=x
  ·subst e;have A:(!cG [y] y)=false:=by rw[aT.2 (a0d.2 rfl)];rfl
   rw[a1f,A];have T:h.filter (fun z=> !cG [y] z)=h:=List.filter_eq_self.2 fun z hz=>by
    have E:cG [y] z=false:=by
     cases hc:cG [y] z with
     |false=>rfl
     |true=>
      have N:=a0d.1 (aT.1 hc)
      have V:=Z.1 z hz
      omega
    rw[E];rfl
   show(h.filter _).length+1=_;rw[T];rfl
  have ag:x∈h:=(a0m.1 hx).elim (fun U=>absurd U.symm e) id
  have A:(!cG [x] y)=true:=by
   have E:cG [x] y=false:=by
    cases hc:cG [x] y with
    |false=>rfl
    |true=>exact absurd (a0d.1 (aT.1 hc)) e
   rw[E];rfl
  rw[a1f,A]
  have N:=ih Z.2 ag
  unfold dR at N
  show(y::h.filter _).length+1=(y::h).length
  rw[a08,a08,←N]
theorem getD_mem{l:List Int}{k:Nat}(h:k<l.length):l.getD k 0∈l:=gg h
theorem prX_ok{c:VFnT}{Q:SpiT->Prop}(v:VF c){z:List Bool}{sl:List SpiT}{w:List Int}{b k:Nat}(h:Inv c Q z sl)(hb:b<c.blocks.length)(hk:k<=(aR c b).ins.length)(N:5<(uns z (iW (ptS c b k))).length):
  Inv c Q (z.set (eM w (uns z (iW (ptS c b k)))).toNat true) (sl++[prX w (uns z (iW (ptS c b k))) (b:Int) (k:Int)]):=by
 have hl:=lstN_ok (S:=ptS c b k) c.regs.toNat fun r hr=>by have:=cz v hb hr;omega
 generalize hu:uns z (iW (ptS c b k))=u at*
 have ao: ∀x∈u,(0<=x/\ptS c b k x.toNat)/\z.getD x.toNat false=false:=fun x hx=>by rw[←hu]at hx;exact⟨(hl.mem x).1 (lj hx).1,(lj hx).2⟩
 have an:Asc u:=by rw[←hu];exact hl.asc.sublist a1S
 have ay:u≠ []:=fun e=>by rw[e]at N;exact absurd N (by decide)
 have al:=best_mem (w:=w) ay
 have hd:=asc_del an al
 obtain⟨⟨U,E⟩,V⟩:=ao _ al
 have g4:=cz v hb E
 have ax:Asc (dR u [eM w u]):=an.sublist a1S
 refine h.snoc (s:=prX w u (b:Int) (k:Int)) ⟨U,show eM w u<c.regs by omega⟩ V (.inr (.inl ⟨rfl,⟨a1o _,hb⟩,⟨a1o _,hk⟩,show 5<=(dR u [eM w u]).length by omega,E,fun q hq=>?_⟩))
 have hq:q<(dR u [eM w u]).length:=hq
 have hm:=a1H.1 (getD_mem hq)
 obtain⟨k1,k2⟩:=ao _ hm.1
 have ad:0<=(dR u [eM w u]).getD q 0:=k1.1
 have k3:(((dR u [eM w u]).getD q 0).toNat:Int)<c.regs:=cz v hb k1.2
 have Z:(dR u [eM w u]).getD q 0≠eM w u:=fun e=>by have A:=hm.2;have T:cG [eM w u] ((dR u [eM w u]).getD q 0)=true:=aT.2 (by rw[e];exact a0d.2 rfl);unfold dR at T A;rw[T]at A;cases A
 exact⟨fun h0=>kU ax (by omega) hq,Z,k1,h.no ⟨k1.1,by show(dR u [eM w u]).getD q 0<c.regs;omega⟩ k2⟩
theorem prW_ok{c:VFnT}{Q:SpiT->Prop}(v:VF c){w:List Int}{b k:Nat}(z:b<c.blocks.length)(E:k<=(aR c b).ins.length): ∀(n:Nat) (s:List Bool×List SpiT),Inv c Q s.1 s.2->Inv c Q (prW w (iW (ptS c b k)) (b:Int) (k:Int) n s).1 (prW w (iW (ptS c b k)) (b:Int) (k:Int) n s).2/\LeB s.1 (prW w (iW (ptS c b k)) (b:Int) (k:Int) n s).1
 |0,s,h=>⟨h,fun _ h=>h⟩
 |n+1,s,h=>by
  unfold prW;split
  ·exact⟨h,fun _ h=>h⟩
  rename_i A;have:=prW_ok (w:=w) v z E n (s.1.set (eM w (uns s.1 (iW (ptS c b k)))).toNat true,s.2++[prX w (uns s.1 (iW (ptS c b k))) (b:Int) (k:Int)]) (prX_ok (w:=w) v h z E (by omega));exact⟨this.1,LeB.set.trans this.2⟩
theorem prK_ok{c:VFnT}{Q:SpiT->Prop}(v:VF c){w:List Int}{b:Nat}(z:b<c.blocks.length): ∀(m:Nat) (s:List Bool×List SpiT),Inv c Q s.1 s.2->Inv c Q (prK c w b m s).1 (prK c w b m s).2/\LeB s.1 (prK c w b m s).1
 |0,s,h=>⟨h,fun _ h=>h⟩
 |m+1,s,h=>by have A:=prW_ok (w:=w) v z (Nat.sub_le (aR c b).ins.length m) fuN s h;have E:=prK_ok (w:=w) v z m _ A.1;exact⟨E.1,A.2.trans E.2⟩
theorem prB_ok{c:VFnT}{Q:SpiT->Prop}(v:VF c){w:List Int}: ∀(m:Nat) (s:List Bool×List SpiT),m<=c.blocks.length->Inv c Q s.1 s.2->Inv c Q (prB c w m s).1 (prB c w m s).2/\LeB s.1 (prB c w m s).1
 |0,s,_,h=>⟨h,fun _ h=>h⟩
 |m+1,s,hm,h=>by have A:=prK_ok (w:=w) v (b:=c.blocks.length-(m+1)) (by omega) ((aR c (c.blocks.length-(m+1))).ins.length+1) s h;have E:=prB_ok (w:=w) v m _ (by omega) A.1;exact⟨E.1,A.2.trans E.2⟩
theorem prR_ok{c:VFnT}{Q:SpiT->Prop}(v:VF c):Inv c Q (prR c).1 (prR c).2/\∀r,acS c r->(prR c).1.getD r false=true:=by have A:=acR_ok (Q:=Q) v;have E:=prB_ok (w:=wN c) v (c.blocks.length-0) (acR c) (Nat.sub_le _ _) A.1;exact⟨E.1,fun r z=>E.2 r (A.2 r z)⟩
theorem frM_neg{f:Nat->Int}: ∀(n m:Nat),frM f n m<m+n->f (frM f n m)<0
 |0,m,h=>by unfold frM at h;omega
 |n+1,m,h=>by
  unfold frM at h⊢;split
  ·assumption
  rename_i A;rw[if_neg A]at h;exact frM_neg n (m+1) (by omega)
theorem frM_all{f:Nat->Int}: ∀(n m:Nat),¬frM f n m<m+n->∀j,m<=j->j<m+n->¬f j<0
 |0,m,h,j,A,E=>by omega
 |n+1,m,h,j,A,E=>by
  unfold frM at h;by_cases z:f m<0
  ·rw[if_pos z]at h;omega
  rw[if_neg z]at h;rcases a1Z A with N|rfl
  ·exact frM_all n (m+1) (by omega) j N (by omega)
  exact z
def colQ(c:VFnT)(r:Nat)(A:List Bool)(z:List LocT)(s:SpiT):Prop:=s.blk=0/\s.idx=0/\s.oth.length=5/\∀m,m<5->(0<=s.oth.getD m 0/\Sy (eP c) s.reg.toNat (s.oth.getD m 0).toNat)/\(s.oth.getD m 0).toNat<r/\A.getD (s.oth.getD m 0).toNat false=false/\z.getD (s.oth.getD m 0).toNat default=⟨false,(m:Int)⟩
theorem Sy.symm'{R:Nat->Nat->Prop}{a b:Nat}(h:Sy R a b):Sy R b a:=h.elim .inr .inl
theorem sy_ne{c:VFnT}{a b:Nat}(h:Sy (eP c) a b):a≠b:=by
 have key: ∀a b,eP c a b->a≠b:=fun a b ⟨_,_,_,_,_,_,A,_⟩ e=>A (by rw[e])
 exact h.elim (key a b) fun h e=>key b a h e.symm
structure CI(c:VFnT)(r:Nat)(s:List Bool×List LocT×List SpiT):Prop where
 inv:Inv c (colQ c r s.1 s.2.1) s.1 s.2.2
 lll:s.2.1.length=c.regs.toNat
 ns: ∀y,(s.2.1.getD y default).inS=false
 rng: ∀y,0<=(s.2.1.getD y default).idx/\(s.2.1.getD y default).idx<5
 clr: ∀y z,y<r->z<r->s.1.getD y false=false->s.1.getD z false=false->Sy (eP c) y z->(s.2.1.getD y default).idx≠(s.2.1.getD z default).idx
theorem own_none{c:VFnT}{T:List Bool}{N:List LocT}{r m:Nat}(U:Lst (iW (Sy (eP c) r)) (Sy (eP c) r))(h:owF c T N r m<0){y:Nat}(V:Sy (eP c) r y)(Z:y<r)(hs:T.getD y false=false):(N.getD y default).idx≠(m:Int):=fun e=>by
 unfold owF ownV at h;rcases E:(iW (Sy (eP c) r)).find? (hasP T N r (m:Int)) with _|z
 ·have A:=List.find?_eq_none.1 E (y:Int) ((U.mem _).2 ⟨by omega,by rw[show((y:Nat):Int).toNat=y by omega];exact V⟩);refine A ?_;unfold hasP;rw[show((y:Nat):Int).toNat=y by omega,hs,e,decide_eq_true (by omega:(y:Int)<(r:Int))];simp
 have A:=((U.mem z).1 (List.mem_of_find?_eq_some E)).1;rw[E]at h;have:z<0:=h;omega
theorem own_some{c:VFnT}{T:List Bool}{N:List LocT}{r m:Nat}(V:Lst (iW (Sy (eP c) r)) (Sy (eP c) r))(h: ¬owF c T N r m<0):(0<=owF c T N r m/\Sy (eP c) r (owF c T N r m).toNat)/\(owF c T N r m).toNat<r/\T.getD (owF c T N r m).toNat false=false/\(N.getD (owF c T N r m).toNat default).idx=(m:Int):=by
 unfold owF ownV at h⊢;rcases U:(iW (Sy (eP c) r)).find? (hasP T N r (m:Int)) with _|z
 ·rw[U]at h;exact absurd (by decide) h
 have E:=(V.mem z).1 (List.mem_of_find?_eq_some U);have A:=List.find?_some U;unfold hasP at A;rw[a0e,a0e,decide_eq_true_eq,decide_eq_true_eq,a0I]at A;refine⟨E,?_,A.2.1,A.2.2⟩;show z.toNat<r;omega
theorem colQ_up{c:VFnT}{r:Nat}{T:List Bool}{z:List LocT}{s:SpiT}(h:colQ c r T z s):colQ c (r+1) T z s:=⟨h.1,h.2.1,h.2.2.1,fun m U=>by
 obtain⟨A,N,E⟩:=h.2.2.2 m U;exact⟨A,by omega,E⟩⟩
theorem coS_ok{c:VFnT}(v:VF c){r:Nat}{s:List Bool×List LocT×List SpiT}(hr:r<c.regs.toNat)(h:CI c r s):CI c (r+1) (coS c r s)/\LeB s.1 (coS c r s).1:=by
 have hl:=lstN_ok (S:=Sy (eP c) r) c.regs.toNat fun y hy=>by have:=iD v hy;omega
 obtain⟨sp,ll,sl⟩:=s;have bb:sp.length=c.regs.toNat:=h.inv.len;have be:ll.length=c.regs.toNat:=h.lll;unfold coS;split
 ·rename_i hs;refine⟨⟨h.inv.imp fun s=>colQ_up,h.lll,h.ns,h.rng,fun y z hy hz N Z h3=>?_⟩,fun _ h=>h⟩;have ay:y≠r:=fun e=>by subst e;rw[hs]at N;cases N
  have a0:z≠r:=fun e=>by subst e;rw[hs]at Z;cases Z
  exact h.clr y z (by omega) (by omega) N Z h3
 rename_i hs;have hs:sp.getD r false=false:=by simpa using hs
 split
 ·rename_i hk;have hk:frM (owF c sp ll r) 5 0<5:=hk;have an:owF c sp ll r (frM (owF c sp ll r) 5 0)<0:=frM_neg 5 0 (by omega);generalize frM (owF c sp ll r) 5 0=k at hk an⊢;have hg: ∀y,(ll.set r ⟨false,(k:Int)⟩).getD y default=if y=r then⟨false,(k:Int)⟩ else ll.getD y default:=fun y=>by
   rw[b8];by_cases e:r=y
   ·subst e;rw[if_pos ⟨rfl,by omega⟩,if_pos rfl]
   rw[if_neg (fun h=>e h.1),if_neg (fun h=>e h.symm)]
  refine⟨⟨h.inv.imp fun s A=>⟨A.1,A.2.1,A.2.2.1,fun m hm=>?_⟩,a0g.trans h.lll,fun y=>?_,fun y=>?_,fun y z hy hz N Z h3=>?_⟩,fun _ h=>h⟩
  ·obtain⟨E,T,U,V⟩:=A.2.2.2 m hm;refine⟨E,by omega,U,?_⟩;show(ll.set r ⟨false,(k:Int)⟩).getD _ default=_;rw[hg,if_neg (by omega)];exact V
  ·show((ll.set r ⟨false,(k:Int)⟩).getD y default).inS=false;rw[hg];split
   ·rfl
   exact h.ns y
  ·show 0<=((ll.set r ⟨false,(k:Int)⟩).getD y default).idx/\((ll.set r ⟨false,(k:Int)⟩).getD y default).idx<5;rw[hg];split
   ·exact⟨a1o _,by show(k:Int)<5;omega⟩
   exact h.rng y
  show((ll.set r ⟨false,(k:Int)⟩).getD y default).idx≠((ll.set r ⟨false,(k:Int)⟩).getD z default).idx;have a7:=sy_ne h3;rw[hg,hg];by_cases ey:y=r
  ·subst ey;rw[if_pos rfl,if_neg (fun e=>a7 e.symm)];exact fun e=>own_none hl an h3 (by omega) Z e.symm
  rw[if_neg ey];by_cases ez:z=r
  ·subst ez;rw[if_pos rfl];exact own_none hl an (Sy.symm' h3) (by omega) N
  rw[if_neg ez];exact h.clr y z (by omega) (by omega) N Z h3
 rename_i hk;have hk: ¬frM (owF c sp ll r) 5 0<5:=hk;have a1: ∀j,j<5->¬owF c sp ll r j<0:=fun j hj=>frM_all 5 0 (by omega) j (a0D _) (by omega)
 have ai: ∀y,y≠r->(sp.set r true).getD y false=sp.getD y false:=fun y hy=>by rw[b8,if_neg (fun e=>hy e.1.symm)]
 have a3: ∀m,m<5->(coX c sp ll r).oth.getD m 0=owF c sp ll r m:=fun m hm=>by show((List.range 5).map (owF c sp ll r)).getD m 0=_;rw[a01,a1h,List.getElem?_range hm];rfl
 have a2:colQ c (r+1) (sp.set r true) ll (coX c sp ll r):=⟨rfl,rfl,by show((List.range 5).map _).length=5;rw[a1B,List.length_range],fun m hm=>by
  obtain⟨E,T,U,V⟩:=own_some hl (a1 m hm);rw[a3 m hm];refine⟨⟨E.1,?_⟩,by omega,by rw[ai _ (by omega)];exact U,?_⟩
  ·show Sy (eP c) ((r:Nat):Int).toNat _;rw[show((r:Nat):Int).toNat=r by omega];exact E.2
  have g5:=h.ns (owF c sp ll r m).toNat;have g5:(ll.getD (owF c sp ll r m).toNat default).inS=false:=g5;generalize ll.getD (owF c sp ll r m).toNat default=x at V g5⊢;obtain⟨a,b⟩:=x;simp only at V g5;rw[V,g5]⟩
 have h0:Inv c (colQ c (r+1) (sp.set r true) ll) sp sl:=h.inv.imp fun s A=>⟨A.1,A.2.1,A.2.2.1,fun m hm=>by
  obtain⟨E,T,U,V⟩:=A.2.2.2 m hm;exact⟨E,by omega,by rw[ai _ (by omega)];exact U,V⟩⟩
 have e:(coX c sp ll r).reg.toNat=r:=by show((r:Nat):Int).toNat=r;omega
 have N:=h0.snoc (s:=coX c sp ll r) ⟨a1o _,by show(r:Int)<c.regs;omega⟩ (by rw[e];exact hs) (.inr (.inr ⟨rfl,a2⟩));rw[e]at N;refine⟨⟨N,h.lll,h.ns,h.rng,fun y z hy hz E T U=>?_⟩,LeB.set⟩;have ay:y≠r:=fun e=>by subst e;have E:(sp.set y true).getD y false=false:=E;rw[fO.2 (.inl ⟨rfl,by omega⟩)]at E;cases E
 have a0:z≠r:=fun e=>by subst e;have T:(sp.set z true).getD z false=false:=T;rw[fO.2 (.inl ⟨rfl,by omega⟩)]at T;cases T
 exact h.clr y z (by omega) (by omega) (by rw[←ai y ay];exact E) (by rw[←ai z a0];exact T) U
theorem coV_ok{c:VFnT}(v:VF c): ∀(n:Nat) (s:List Bool×List LocT×List SpiT),n<=c.regs.toNat->CI c (c.regs.toNat-n) s->CI c c.regs.toNat (coV c n s)/\LeB s.1 (coV c n s).1
 |0,s,_,h=>⟨h,fun _ h=>h⟩
 |n+1,s,hn,h=>by have A:=coS_ok v (r:=c.regs.toNat-(n+1)) (by omega) h;rw[show c.regs.toNat-(n+1)+1=c.regs.toNat-n by omega]at A;have E:=coV_ok v n _ (by omega) A.1;exact⟨E.1,A.2.trans E.2⟩
theorem rl_d{n:Nat}{y:Nat}:(List.replicate n (default:LocT)).getD y default=⟨false,0⟩:=by rw[a01,a0R];split<;>rfl
theorem coR_ok{c:VFnT}(v:VF c):CI c c.regs.toNat (coR c)/\∀r,acS c r->(coR c).1.getD r false=true:=by
 have A:=prR_ok (Q:=colQ c 0 (prR c).1 (List.replicate c.regs.toNat default)) v;have N:CI c (c.regs.toNat-(c.regs.toNat-0)) ((prR c).1,List.replicate c.regs.toNat default,(prR c).2):=by
  rw[show c.regs.toNat-(c.regs.toNat-0)=0 by omega];refine⟨A.1,a0z,fun y=>?_,fun y=>?_,fun y z U=>absurd U (a0u _)⟩
  ·show((List.replicate c.regs.toNat (default:LocT)).getD y default).inS=false;rw[rl_d]
  show 0<=((List.replicate c.regs.toNat (default:LocT)).getD y default).idx/\_;rw[rl_d];decide
 have E:=coV_ok v (c.regs.toNat-0) _ (Nat.sub_le _ _) N;exact⟨E.1,fun r T=>E.2 r (A.2 r T)⟩
structure FI(c:VFnT)(sp:List Bool)(ll:List LocT)(r:Nat)(s:List LocT×Int):Prop where
 len:s.1.length=c.regs.toNat
 sz:c.params<=s.2/\s.2<=c.params+r
 new: ∀y,y<r->sp.getD y false=true->(s.1.getD y default).inS=true/\c.params<=(s.1.getD y default).idx/\(s.1.getD y default).idx<s.2
 dis: ∀y z,y<r->z<r->y≠z->sp.getD y false=true->sp.getD z false=true->(s.1.getD y default).idx≠(s.1.getD z default).idx
 old: ∀y,r<=y\/sp.getD y false=false->s.1.getD y default=ll.getD y default
theorem fiS_ok{c:VFnT}{sp:List Bool}{ll:List LocT}{r:Nat}{s:List LocT×Int}(hr:r<c.regs.toNat)(h:FI c sp ll r s):FI c sp ll (r+1) (fiS sp r s):=by
 obtain⟨lf,z⟩:=s;have ar:lf.length=c.regs.toNat:=h.len;have hz:c.params<=z/\z<=c.params+r:=h.sz;unfold fiS;split
 ·rename_i hs;have hg: ∀y,(lf.set r ⟨true,z⟩).getD y default=if y=r then⟨true,z⟩ else lf.getD y default:=fun y=>by
   rw[b8];by_cases e:r=y
   ·subst e;rw[if_pos ⟨rfl,by omega⟩,if_pos rfl]
   rw[if_neg (fun h=>e h.1),if_neg (fun h=>e h.symm)]
  refine⟨a0g.trans h.len,⟨by show c.params<=z+1;omega,by show z+1<=c.params+((r+1:Nat):Int);omega⟩,fun y Z A=>?_,fun y w Z hw ag A E=>?_,fun y Z=>?_⟩
  ·show((lf.set r ⟨true,z⟩).getD y default).inS=true/\c.params<=((lf.set r ⟨true,z⟩).getD y default).idx/\((lf.set r ⟨true,z⟩).getD y default).idx<z+1;rw[hg];by_cases e:y=r
   ·rw[if_pos e];exact⟨rfl,hz.1,by show z<z+1;omega⟩
   rw[if_neg e];obtain⟨U,V,N⟩:=h.new y (by omega) A;have N:(lf.getD y default).idx<z:=N;exact⟨U,V,by omega⟩
  ·show((lf.set r ⟨true,z⟩).getD y default).idx≠((lf.set r ⟨true,z⟩).getD w default).idx;rw[hg,hg];by_cases e:y=r
   ·subst e;rw[if_pos rfl,if_neg (fun e=>ag e.symm)];have N:(lf.getD w default).idx<z:=(h.new w (by omega) E).2.2;show z≠_;omega
   rw[if_neg e];by_cases T:w=r
   ·subst T;rw[if_pos rfl];have N:(lf.getD y default).idx<z:=(h.new y (by omega) A).2.2;show _≠z;omega
   rw[if_neg T];exact h.dis y w (by omega) (by omega) ag A E
  show(lf.set r ⟨true,z⟩).getD y default=_;have e:y≠r:=fun e=>by
   subst e;rcases Z with Z|Z
   ·omega
   rw[hs]at Z;cases Z
  rw[hg,if_neg e];exact h.old y (Z.imp (fun h=>by omega) id)
 rename_i hs;have hs:sp.getD r false=false:=by simpa using hs
 have ag: ∀y,sp.getD y false=true->y≠r:=fun y Z e=>by subst e;rw[hs]at Z;cases Z
 refine⟨h.len,⟨hz.1,by show z<=c.params+((r+1:Nat):Int);omega⟩,fun y Z A=>h.new y (by have:=ag y A;omega) A,fun y w Z hw hn A E=>h.dis y w (by have:=ag y A;omega) (by have:=ag w E;omega) hn A E,fun y Z=>h.old y ?_⟩;by_cases e:y=r
 ·subst e;exact .inr hs
 exact Z.imp (fun h=>by omega) id
theorem fiV_ok{c:VFnT}{z:List Bool}{E:List LocT}: ∀(n:Nat) (s:List LocT×Int),n<=c.regs.toNat->FI c z E (c.regs.toNat-n) s->FI c z E c.regs.toNat (fiV c z n s)
 |0,s,_,h=>h
 |n+1,s,hn,h=>by have A:=fiS_ok (r:=c.regs.toNat-(n+1)) (by omega) h;rw[show c.regs.toNat-(n+1)+1=c.regs.toNat-n by omega]at A;exact fiV_ok n _ (by omega) A
theorem fiR_ok{c:VFnT}(v:VF c):FI c (coR c).1 (coR c).2.1 c.regs.toNat (fiR c):=by have h:=(coR_ok v).1;refine fiV_ok (c.regs.toNat-0) _ (Nat.sub_le _ _) ?_;rw[show c.regs.toNat-(c.regs.toNat-0)=0 by omega];exact⟨h.lll,⟨Int.le_refl _,by show c.params<=c.params+((0:Nat):Int);omega⟩,fun y A=>absurd A (a0u _),fun y z A=>absurd A (a0u _),fun y _=>rfl⟩
theorem all_good{c:VFnT}{a:AllT}{e:Int}(h:(a,e)=allV c)(hv:bP c=true)(hz: ∀r,¬ptS c 0 0 r)(hs:c.params+c.regs<=3000):e=0/\SndP c a/\JstG c a/\a.locs.length=c.regs.toNat/\a.spi.length<=c.regs.toNat:=by
 have v:=eR hv;have a7:=v.regs;have a6:=v.params;have hC:=coR_ok v;have hF:=fiR_ok v;have a1:=hF.sz;have hA:allV c=(⟨(fiR c).1,(coR c).2.2,(fiR c).2⟩,0):=all_ok hv hz rfl rfl (by omega);rw[hA]at h;obtain⟨E,h2⟩:=Prod.mk.inj h;subst E h2;have al:(fiR c).1.length=c.regs.toNat:=hF.len;have z: ∀y,y<c.regs.toNat->(((fiR c).1.getD y default).inS=true↔(coR c).1.getD y false=true):=fun y hy=>by
  cases hb:(coR c).1.getD y false with
  |true=>exact⟨(fun _=>rfl),fun _=>(hF.new y hy hb).1⟩
  |false=>
   rw[hF.old y (.inr hb)]
   exact⟨(fun h=>by rw[hC.1.ns y]at h;cases h),fun h=>by cases h⟩
 have aw:=hC.1.inv.spl;refine⟨rfl,⟨hv,by show((fiR c).1.length:Int)=c.regs;omega,a1.1,by show(fiR c).2<=3000;omega,hz,fun q hq=>?_,fun q y hq hy=>?_,fun r hr=>?_⟩,⟨hv,by show((fiR c).1.length:Int)=c.regs;omega,fun k hk=>?_,fun r hr hi=>?_⟩,al,?_⟩
 ·have hq:q<c.regs.toNat:=by rw[←al];exact hq
  show okL c _ ((fiR c).1.getD q default);refine⟨fun hi=>(hF.new q hq ((z q hq).1 hi)).2,fun hi=>?_⟩;have hb:(coR c).1.getD q false=false:=by
   cases hb:(coR c).1.getD q false with
   |false=>rfl
   |true=>rw[(z q hq).2 hb]at hi;cases hi
  rw[hF.old q (.inr hb)];exact hC.1.rng q
 ·have hq:q<c.regs.toNat:=by rw[←al];exact hq
  have T:y<c.regs.toNat:=by have:=iD v hy;omega
  show(fiR c).1.getD q default≠(fiR c).1.getD y default;intro e;have a0:=sy_ne hy;cases hb:(coR c).1.getD q false with
  |true=>
   have E:=(z q hq).2 hb
   rw[e]at E
   exact hF.dis q y hq T a0 hb ((z y T).1 E) (congrArg LocT.idx e)
  |false=>
   have E: ¬((fiR c).1.getD q default).inS=true:=fun h=>by rw[(z q hq).1 h]at hb;cases hb
   rw[e]at E
   have N:(coR c).1.getD y false=false:=by
    cases N:(coR c).1.getD y false with
    |false=>rfl
    |true=>exact absurd ((z y T).2 N) E
   rw[hF.old q (.inr hb),hF.old y (.inr N)]at e
   exact hC.1.clr q y hq T hb N hy (congrArg LocT.idx e)
 ·have:=iT v (a0a _) hr;exact(z r (by omega)).2 (hC.2 r hr)
 ·obtain⟨U,Z,A⟩:=hC.1.inv.good k hk;have g4:(coR c).1.getD ((coR c).2.2.getD k default).reg.toNat false=true:=(ku aw U).2 ⟨k,hk,rfl⟩;have V:((coR c).2.2.getD k default).reg.toNat<c.regs.toNat:=by have:=U.1;have:=U.2;omega
  refine⟨U,Z,(z _ V).2 g4,A.imp id fun A=>A.imp id fun A=>⟨A.1,A.2.1,A.2.2.1,A.2.2.2.1,fun m hm=>?_⟩⟩;have e5:((coR c).2.2.getD k default).oth.length=5:=A.2.2.2.1;have hm:m<((coR c).2.2.getD k default).oth.length:=hm;obtain⟨k1,k2,k3,k4⟩:=A.2.2.2.2 m (by omega);exact⟨k1,(hF.old _ (.inr k3)).trans k4⟩
 ·have hr:r<c.regs.toNat:=by rw[←al];exact hr
  exact(aw r hr).1 ((z r hr).1 hi)
 show(coR c).2.2.length<=c.regs.toNat;rw[hC.1.inv.cnt,←hC.1.inv.len];exact a2c
def SpO(z:List SpiT):Prop:= ∀s∈z,s.oth.length<=3000
theorem lu{z:List SpiT}{x:SpiT}(h:SpO z)(A:x.oth.length<=3000):SpO (z++[x]):=fun s hs=>by
 rw[a07,a0d]at hs;rcases hs with hs|rfl
 ·exact h s hs
 exact A
theorem acP_oth{c:VFnT}: ∀(l:List Int) (s:List Bool×List SpiT),SpO s.2->SpO (acP c l s).2
 | [],_,h=>h
 |x::l,s,h=>acP_oth l _ (lu h (a0D _))
theorem lstN_len{c:VFnT}{S:Nat->Prop}(z:0<=c.regs/\c.regs<=3000)(h: ∀r,S r->(r:Int)<c.regs):(iW S).length<=3000:=by
 unfold iW;split
 ·rename_i e;have:=Lst.len e.choose_spec z.1 h;omega
 exact a0D _
theorem prW_oth{w z:List Int}{b k:Int}(A:z.length<=3000): ∀(n:Nat) (s:List Bool×List SpiT),SpO s.2->SpO (prW w z b k n s).2
 |0,_,h=>h
 |n+1,s,h=>by
  unfold prW;split
  ·exact h
  refine prW_oth A n _ (lu h ?_);exact a0c (a13 _ _) (a0c jv A)
theorem prK_oth{c:VFnT}{w:List Int}{b:Nat}(v:VF c)(z:b<c.blocks.length): ∀(n:Nat) (s:List Bool×List SpiT),SpO s.2->SpO (prK c w b n s).2
 |0,_,h=>h
 |n+1,s,h=>prK_oth v z n _ (prW_oth (lstN_len v.regs fun r h=>cz v z h) fuN s h)
theorem prB_oth{c:VFnT}{w:List Int}(v:VF c): ∀(n:Nat) (s:List Bool×List SpiT),n<=c.blocks.length->SpO s.2->SpO (prB c w n s).2
 |0,_,_,h=>h
 |n+1,s,hn,h=>prB_oth v n _ (by omega) (prK_oth v (by omega) _ s h)
theorem coS_oth{c:VFnT}{r:Nat}{s:List Bool×List LocT×List SpiT}(h:SpO s.2.2):SpO (coS c r s).2.2:=by
 unfold coS;split
 ·exact h
 split
 ·exact h
 exact lu h (by unfold coX;simp)
theorem coV_oth{c:VFnT}: ∀(n:Nat) (s:List Bool×List LocT×List SpiT),SpO s.2.2->SpO (coV c n s).2.2
 |0,_,h=>h
 |n+1,s,h=>coV_oth n _ (coS_oth h)
theorem all_oth(c:VFnT):SpO (allV c).1.spi:=by
 have z:SpO []:=fun s h=>by cases h
 unfold allV;split
 ·rename_i A;split
  ·exact z
  split
  ·exact z
  exact coV_oth _ _ (prB_oth (eR A) _ _ (Nat.sub_le _ _) (acP_oth _ _ z))
 exact z
theorem al_oth{x:AllT}{e:Int}{c:VFnT}(h:(x,e)=allV c)(j:Nat):(x.spi.getD j default).oth.length<=3000:=by
 have A:x=(allV c).1:=congrArg Prod.fst h;rw[A,a01];rcases z:(allV c).1.spi[j]? with _|s
 ·exact a0D _
 exact all_oth c s (a0l z)
end Go.Proofs.YtknafdcgpaejlaaDoor.no
