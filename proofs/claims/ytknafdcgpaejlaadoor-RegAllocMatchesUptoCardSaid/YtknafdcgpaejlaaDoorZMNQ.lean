/-
Plain laws: what the functions compute answers as the statement says. No condition beyond those that each statement names.
-/
import Derived.Test.YtknafdcgpaejlaaDoorZMNV
noncomputable section
namespace Go.Proofs.YtknafdcgpaejlaaDoor.nq
open Go.R m1 m2 m3 m4 m5 m6 ma ml mb mc md mf mg mh mi mj na nb nc ni nv
set_option linter.unusedVariables false
set_option linter.unusedSimpArgs false
def conV2(A:List Bool)(x:Int):Bool:= !(A.getD x.toNat false)
def uns(A:List Bool)(l:List Int):List Int:=l.filter (conV2 A)
theorem eg{A:List Bool}{l o:List Int}{i:Nat}(h:i<l.length)(E:o=uns A (l.take i)):(A.getD (l.getD i 0).toNat false=false->o++[l.getD i 0]=uns A (l.take (i+1)))/\(A.getD (l.getD i 0).toNat false=true->o=uns A (l.take (i+1))):=by
 unfold uns at E⊢;rw[aY h (d:=0),List.filter_append,←E];constructor
 ·intro hc;unfold conV2;rw[a1s,hc];rfl
 intro hc;unfold conV2;rw[a1s,hc];simp
theorem el{A:List Bool}{l:List Int}:(uns A l).length<=l.length:=a16 _ _
theorem gK{A:List Bool}{l:List Int}{x:Int}(h:x∈uns A l):x∈l/\A.getD x.toNat false=false:=by unfold uns conV2 at h;rw[a1E]at h;exact⟨h.1,by simpa using h.2⟩
theorem set_true{T:List Bool}{i j:Nat}:(T.set i true).getD j false=true↔(i=j/\i<T.length)\/T.getD j false=true:=by
 rw[cg];by_cases h:i=j/\j<T.length
 ·obtain⟨rfl,E⟩:=h;rw[if_pos ⟨rfl,E⟩];exact⟨fun _=> .inl ⟨rfl,E⟩,fun _=>rfl⟩
 rw[if_neg h];exact⟨.inr,fun N=>N.elim (fun A=>absurd ⟨A.1,A.1▸A.2⟩ h) id⟩
theorem set_false{A:List Bool}{i j:Nat}(h:(A.set i true).getD j false=false):A.getD j false=false:=by
 rcases E:A.getD j false with _|_
 ·rfl
 rw[set_true.2 (.inr E)]at h;exact h
theorem uns_lt{N:List Bool}{l:List Int}{x:Int}(U:x∈l)(T:x.toNat<N.length):(uns (N.set x.toNat true) l).length<l.length:=by
 unfold uns;rcases a0i (l.filter (conV2 (N.set x.toNat true))).length l.length with h|h
 ·exact h
 exfalso;have E:=a16 (conV2 (N.set x.toNat true)) l;have A:=(List.length_filter_eq_length_iff.1 (Nat.le_antisymm E h)) x U;unfold conV2 at A;rw[set_true.2 (.inl ⟨rfl,T⟩)]at A;cases A
structure SpF(c:VFnT)(sp:List Bool)(sl:List SpiT):Prop where
 len:sp.length=c.regs.toNat
 cnt:sl.length<=3000+sp.count true
theorem cnt_set{l:List Bool}: ∀{i:Nat},i<l.length->l.getD i false=false->(l.set i true).count true=l.count true+1:=by
 induction l with
 |nil=>intro i h;exact absurd h (a0U _)
 |cons b l ih=>
  intro i h A
  cases i with
  |zero=>
   have A:b=false:=A
   subst A
   rw[List.set_cons_zero,List.count_cons_self,List.count_cons_of_ne (by decide)]
  |succ i=>
   rw[a1S,List.count_cons,List.count_cons,ih (Nat.lt_of_succ_lt_succ h) A];omega
theorem SpF.set{c:VFnT}{T:List Bool}{U N:List SpiT}{r:Nat}(h:SpF c T U)(Z:r<c.regs.toNat)(hs:T.getD r false=false)(V:N.length=U.length+1):SpF c (T.set r true) N:=by have A:=h.len;have E:=h.cnt;exact⟨a0b.trans A,by rw[cnt_set (by omega) hs];omega⟩
theorem SpF.small{c:VFnT}{V:List Bool}{U:List SpiT}(h:SpF c V U)(v:VF c):U.length<=6000:=by have A:=h.len;have E:=h.cnt;have N:=v.regs;have T:=List.count_le_length (a:=true) (l:=V);omega
theorem spf_0{c:VFnT}{U:List Bool}{T:List SpiT}{q:Nat}(A:U.length=c.regs.toNat)(E:T.length<=q)(N:q<=3000):SpF c U T:=⟨A,by omega⟩
theorem kQ{l m:List Int}{lo hi:Int}(h: ∀x∈l,lo<=x/\x<hi)(A: ∀x∈m,x∈l): ∀x∈m,lo<=x/\x<hi:=fun x E=>h x (A x E)
theorem uns_uns{A:List Bool}{l:List Int}{i:Nat}:uns (A.set i true) (uns A l)=uns (A.set i true) l:=by
 unfold uns;rw[List.filter_filter];refine List.filter_congr fun x _=>?_
 unfold conV2;rcases h:(A.set i true).getD x.toNat false with _|_
 ·rw[set_false h];rfl
 rfl
theorem uns_lt2{A:List Bool}{l:List Int}{x:Int}(N:x∈uns A l)(E:x.toNat<A.length):(uns (A.set x.toNat true) l).length<(uns A l).length:=by rw[←uns_uns];exact uns_lt N E
open Classical in
noncomputable def lstN (S : Nat -> Prop) : List Int := if h : ∃ l, Lst l S then h.choose else []
theorem gT{S:Nat->Prop}{l:List Int}(h:Lst l S):l=lstN S:=by
 have e: ∃l,Lst l S:=⟨l,h⟩
 unfold lstN;rw[dif_pos e];exact Lst.uniq h e.choose_spec fun _=>Iff.rfl
open Classical in
noncomputable def wN (c : VFnT) : List Int := if h : ∃ o, CntF c (i0 c) o then h.choose else []
theorem wN_eq{c:VFnT}{o:List Int}(h:CntF c (i0 c) o):o=wN c:=by
 have e: ∃o,CntF c (i0 c) o:=⟨o,h⟩
 unfold wN;rw[dif_pos e];have k:=e.choose_spec;generalize e.choose=y at k;have E:=h.len;have N:=k.len;refine List.ext_getElem (by omega) fun j T A=>?_
 have:=(h.at_ j (by omega)).trans (k.at_ j (by omega)).symm;rwa [a02,a02,a06 T,a06 A]at this
def FirstC(c:VFnT)(r b k:Nat):Prop:=b<c.blocks.length/\k<(aW c b).ins.length/\acI c b k r/\∀A E,(A<b\/A=b/\E<k)->E<(aW c A).ins.length->¬acI c A E r
open Classical in
noncomputable def fcN (c : VFnT) (r : Nat) : Nat × Nat := if h : ∃ p : Nat × Nat, FirstC c r p.1 p.2 then h.choose else (0, 0)
theorem fc_uniq{c:VFnT}{r b k:Nat}(h:FirstC c r b k):fcN c r=(b,k):=by
 have e: ∃p:Nat×Nat,FirstC c r p.1 p.2:=⟨(b,k),h⟩
 unfold fcN;rw[dif_pos e];have A:=e.choose_spec;generalize e.choose=p at A;obtain⟨U,T⟩:=p;simp only at A;rcases a1m b U with E|E|E
 ·exact absurd h.2.2.1 (A.2.2.2 b k (.inl E) h.2.1)
 ·subst E;rcases a1m k T with N|N|N
  ·exact absurd h.2.2.1 (A.2.2.2 b k (.inr ⟨rfl,N⟩) h.2.1)
  ·subst N;rfl
  exact absurd A.2.2.1 (h.2.2.2 b T (.inr ⟨rfl,N⟩) A.2.1)
 exact absurd A.2.2.1 (h.2.2.2 U T (.inl E) A.2.1)
noncomputable def acX (c : VFnT) (x : Int) : SpiT := ⟨x, 1, (fcN c x.toNat).1, (fcN c x.toNat).2, []⟩
noncomputable def acP (c : VFnT) : List Int -> List Bool × List SpiT -> List Bool × List SpiT
 | [],s=>s
 |x::l,s=>acP c l (s.1.set x.toNat true,s.2++[acX c x])
theorem acP_step{c:VFnT}{l:List Int}{q:Nat}{E:List Bool}{A:List SpiT}(h:q<l.length):acP c (l.drop q) (E,A)=acP c (l.drop (q+1)) (E.set (l.getD q 0).toNat true,A++[acX c (l.getD q 0)]):=by rw[a0R h,a02,a06 h];rfl
theorem acP_end{c:VFnT}{l:List Int}{q:Nat}{s:List Bool×List SpiT}(h:l.length<=q):acP c (l.drop q) s=s:=by rw[a1q h];rfl
noncomputable def acR (c : VFnT) : List Bool × List SpiT := acP c (lstN (acS c)) (List.replicate c.regs.toNat false, [])
def fX(w:List Int)(b n:Int):Int:=if w.getD n.toNat 0<=w.getD b.toNat 0 then n else b
def bestV(w h:List Int):Int:=h.foldl (fX w) (h.getD 0 0)
theorem jC{w h:List Int}{r:Int}{p:Nat}(A:p<h.length)(e:r=(h.take p).foldl (fX w) (h.getD 0 0)):fX w r (h.getD p 0)=(h.take (p+1)).foldl (fX w) (h.getD 0 0):=by rw[aY A (d:=0),List.foldl_append,←e];rfl
theorem best_yes{w h:List Int}{r:Int}{p:Nat}(A:p<h.length)(e:r=(h.take p).foldl (fX w) (h.getD 0 0))(hc:w.getD (h.getD p 0).toNat 0<=w.getD r.toNat 0):h.getD p 0=(h.take (p+1)).foldl (fX w) (h.getD 0 0):=by rw[←jC A e];unfold fX;rw[if_pos hc]
theorem best_no{w h:List Int}{r:Int}{p:Nat}(A:p<h.length)(e:r=(h.take p).foldl (fX w) (h.getD 0 0))(hc: ¬w.getD (h.getD p 0).toNat 0<=w.getD r.toNat 0):r=(h.take (p+1)).foldl (fX w) (h.getD 0 0):=by rw[←jC A e];unfold fX;rw[if_neg hc]
theorem best_one{w h:List Int}(A:0<h.length):h.getD 0 0=(h.take 1).foldl (fX w) (h.getD 0 0):=by rw[←jC (p:=0) A rfl];unfold fX;split<;>rfl
theorem best_end{w h:List Int}{r:Int}{p:Nat}(A:h.length<=p)(e:r=(h.take p).foldl (fX w) (h.getD 0 0)):r=bestV w h:=by rw[e,a0g A];rfl
def prX(w h:List Int)(b k:Int):SpiT:=⟨bestV w h,2,b,k,bZ h [bestV w h]⟩
def prW(w A:List Int)(b k:Int):Nat->List Bool×List SpiT->List Bool×List SpiT
 |0,s=>s
 |n+1,s=>if(uns s.1 A).length<=5 then s else prW w A b k n (s.1.set (bestV w (uns s.1 A)).toNat true,s.2++[prX w (uns s.1 A) b k])
theorem prW_end{w A:List Int}{b k:Int}{s:List Bool×List SpiT}(h:(uns s.1 A).length<=5): ∀n,prW w A b k n s=s
 |0=>rfl
 |n+1=>if_pos h
theorem prW_step{w A:List Int}{b k:Int}{E:List Bool}{N:List SpiT}{n:Nat}(h:5<(uns E A).length):prW w A b k (n+1) (E,N)=prW w A b k n (E.set (bestV w (uns E A)).toNat true,N++[prX w (uns E A) b k]):=if_neg (by simp only;omega)
def fuN:Nat:=3001
noncomputable def prK (c : VFnT) (w : List Int) (b : Nat) : Nat -> List Bool × List SpiT -> List Bool × List SpiT
 |0,s=>s
 |m+1,s=>prK c w b m (prW w (lstN (ptS c b ((aW c b).ins.length-m))) (b:Int) (((aW c b).ins.length-m:Nat):Int) fuN s)
theorem prK_at{c:VFnT}{w:List Int}{b k:Nat}{s:List Bool×List SpiT}(h:k<=(aW c b).ins.length):prK c w b ((aW c b).ins.length+1-k) s=prK c w b ((aW c b).ins.length+1-(k+1)) (prW w (lstN (ptS c b k)) (b:Int) (k:Int) fuN s):=by rw[show(aW c b).ins.length+1-k=((aW c b).ins.length+1-(k+1))+1 by omega];generalize A:(aW c b).ins.length+1-(k+1)=m;show prK c w b m (prW w (lstN (ptS c b ((aW c b).ins.length-m))) (b:Int) (((aW c b).ins.length-m:Nat):Int) fuN s)=_;rw[show(aW c b).ins.length-m=k by omega]
theorem prK_end{c:VFnT}{w:List Int}{b k:Nat}{s:List Bool×List SpiT}(h:(aW c b).ins.length+1<=k):prK c w b ((aW c b).ins.length+1-k) s=s:=by rw[show(aW c b).ins.length+1-k=0 by omega];rfl
noncomputable def prB (c : VFnT) (w : List Int) : Nat -> List Bool × List SpiT -> List Bool × List SpiT
 |0,s=>s
 |m+1,s=>prB c w m (prK c w (c.blocks.length-(m+1)) ((aW c (c.blocks.length-(m+1))).ins.length+1) s)
theorem prB_at{c:VFnT}{w:List Int}{b:Nat}{s:List Bool×List SpiT}(h:b<c.blocks.length):prB c w (c.blocks.length-b) s=prB c w (c.blocks.length-(b+1)) (prK c w b ((aW c b).ins.length+1-0) s):=by rw[show c.blocks.length-b=(c.blocks.length-(b+1))+1 by omega];show prB c w (c.blocks.length-(b+1)) (prK c w (c.blocks.length-(c.blocks.length-(b+1)+1)) ((aW c (c.blocks.length-(c.blocks.length-(b+1)+1))).ins.length+1) s)=_;rw[show c.blocks.length-(c.blocks.length-(b+1)+1)=b by omega];rfl
theorem prB_end{c:VFnT}{w:List Int}{b:Nat}{s:List Bool×List SpiT}(h:c.blocks.length<=b):prB c w (c.blocks.length-b) s=s:=by rw[show c.blocks.length-b=0 by omega];rfl
noncomputable def prR (c : VFnT) : List Bool × List SpiT := prB c (wN c) (c.blocks.length - 0) (acR c)
def hasP(E:List Bool)(A:List LocT)(r:Nat)(m:Int)(y:Int):Bool:=decide (y<(r:Int))&&(!(E.getD y.toNat false)&&decide ((A.getD y.toNat default).idx=m))
def ownV(N:List Bool)(E:List LocT)(r:Nat)(A:List Int)(m:Int):Int:=(A.find? (hasP N E r m)).getD (-1)
def frM(f:Nat->Int):Nat->Nat->Nat
 |0,m=>m
 |n+1,m=>if f m<0 then m else frM f n (m+1)
theorem fr_spec{f:Nat->Int}{k:Nat}: ∀(n m:Nat),m<=k->k<=m+n->(∀j,m<=j->j<k->¬f j<0)->(k<m+n->f k<0)->frM f n m=k
 |0,m,A,U,_,_=>by unfold frM;omega
 |n+1,m,A,U,E,N=>by
  unfold frM;rcases Nat.lt_or_eq_of_le A with T|rfl
  ·rw[if_neg (E m (a0a _) T)];exact fr_spec n (m+1) T (by omega) (fun j V=>E j (by omega)) (fun h=>N (by omega))
  rw[if_pos (N (by omega))]
noncomputable def owF (c : VFnT) (E : List Bool) (A : List LocT) (r m : Nat) : Int := ownV E A r (lstN (Sy (kT c) r)) (m : Int)
noncomputable def coX (c : VFnT) (E : List Bool) (A : List LocT) (r : Nat) : SpiT := ⟨r, 3, 0, 0, (List.range 5).map (owF c E A r)⟩
noncomputable def coS (c : VFnT) (r : Nat) (s : List Bool × List LocT × List SpiT) : List Bool × List LocT × List SpiT :=
 if s.1.getD r false=true then s else
 if frM (owF c s.1 s.2.1 r) 5 0<5 then(s.1,s.2.1.set r ⟨false,((frM (owF c s.1 s.2.1 r) 5 0:Nat):Int)⟩,s.2.2)
 else(s.1.set r true,s.2.1,s.2.2++[coX c s.1 s.2.1 r])
noncomputable def coV (c : VFnT) : Nat -> List Bool × List LocT × List SpiT -> List Bool × List LocT × List SpiT
 |0,s=>s
 |n+1,s=>coV c n (coS c (c.regs.toNat-(n+1)) s)
theorem km{c:VFnT}{r:Nat}{s:List Bool×List LocT×List SpiT}(h:r<c.regs.toNat):coV c (c.regs.toNat-r) s=coV c (c.regs.toNat-(r+1)) (coS c r s):=by rw[show c.regs.toNat-r=(c.regs.toNat-(r+1))+1 by omega];show coV c (c.regs.toNat-(r+1)) (coS c (c.regs.toNat-(c.regs.toNat-(r+1)+1)) s)=_;rw[show c.regs.toNat-(c.regs.toNat-(r+1)+1)=r by omega]
theorem coV_end{c:VFnT}{r:Nat}{s:List Bool×List LocT×List SpiT}(h:c.regs.toNat<=r):coV c (c.regs.toNat-r) s=s:=by rw[show c.regs.toNat-r=0 by omega];rfl
theorem co_skip{c:VFnT}{r:Nat}{A:List Bool}{E:List LocT}{N:List SpiT}(h:A.getD r false=true):coS c r (A,E,N)=(A,E,N):=if_pos h
theorem co_set{c:VFnT}{r k:Nat}{N:List Bool}{T:List LocT}{U:List SpiT}(h:N.getD r false=false)(V:k<5)(A: ∀j,j<k->¬owF c N T r j<0)(E:owF c N T r k<0):coS c r (N,T,U)=(N,T.set r ⟨false,(k:Int)⟩,U):=by
 have e:frM (owF c N T r) 5 0=k:=fr_spec 5 0 (a0p _) (by omega) (fun j _=>A j) fun _=>E
 unfold coS;simp only;rw[h,e,if_neg (by decide),if_pos V]
theorem co_spill{c:VFnT}{r:Nat}{E:List Bool}{N:List LocT}{T:List SpiT}(h:E.getD r false=false)(A: ∀j,j<5->¬owF c E N r j<0):coS c r (E,N,T)=(E.set r true,N,T++[coX c E N r]):=by
 have e:frM (owF c E N r) 5 0=5:=fr_spec 5 0 (a0p _) (by omega) (fun j _=>A j) fun h=>absurd h (by omega)
 unfold coS;simp only;rw[h,e,if_neg (by decide),if_neg (by decide)]
noncomputable def coR (c : VFnT) : List Bool × List LocT × List SpiT := coV c (c.regs.toNat - 0) ((prR c).1, List.replicate c.regs.toNat default, (prR c).2)
def fiS(A:List Bool)(r:Nat)(s:List LocT×Int):List LocT×Int:=if A.getD r false=true then(s.1.set r ⟨true,s.2⟩,s.2+1) else s
def fiV(c:VFnT)(A:List Bool):Nat->List LocT×Int->List LocT×Int
 |0,s=>s
 |n+1,s=>fiV c A n (fiS A (c.regs.toNat-(n+1)) s)
theorem fiV_at{c:VFnT}{A:List Bool}{r:Nat}{s:List LocT×Int}(h:r<c.regs.toNat):fiV c A (c.regs.toNat-r) s=fiV c A (c.regs.toNat-(r+1)) (fiS A r s):=by rw[show c.regs.toNat-r=(c.regs.toNat-(r+1))+1 by omega];show fiV c A (c.regs.toNat-(r+1)) (fiS A (c.regs.toNat-(c.regs.toNat-(r+1)+1)) s)=_;rw[show c.regs.toNat-(c.regs.toNat-(r+1)+1)=r by omega]
theorem fiV_end{c:VFnT}{A:List Bool}{r:Nat}{s:List LocT×Int}(h:c.regs.toNat<=r):fiV c A (c.regs.toNat-r) s=s:=by rw[show c.regs.toNat-r=0 by omega];rfl
noncomputable def fiR (c : VFnT) : List LocT × Int := fiV c (coR c).1 (c.regs.toNat - 0) ((coR c).2.1, c.params)
open Classical in
noncomputable def allV (c : VFnT) : AllT × Int :=
 if bY c=true then
  if ∃r,ptS c 0 0 r then(⟨[],[],0⟩,205)
  else if 3000<(fiR c).2 then(⟨[],[],0⟩,6) else(⟨(fiR c).1,(coR c).2.2,(fiR c).2⟩,0)
 else(⟨[],[],0⟩,1)
theorem all_arg{c:VFnT}(h:bY c=false):allV c=(⟨[],[],0⟩,1):=if_neg (by rw[h];decide)
theorem all_un{c:VFnT}(h:bY c=true)(k: ∃r,ptS c 0 0 r):allV c=(⟨[],[],0⟩,205):=(if_pos h).trans (if_pos k)
theorem all_lim{c:VFnT}{l:List LocT}{n:Int}(h:bY c=true)(k: ∀r,¬ptS c 0 0 r)(e:(l,n)=fiR c)(A:3000<n):allV c=(⟨[],[],0⟩,6):=by refine(if_pos h).trans ((if_neg fun⟨r,E⟩=>k r E).trans ?_);rw[←e];exact if_pos A
theorem all_ok{c:VFnT}{V:List Bool}{E l:List LocT}{N:List SpiT}{n:Int}(h:bY c=true)(k: ∀r,¬ptS c 0 0 r)(e:(l,n)=fiR c)(A:(V,E,N)=coR c)(T: ¬3000<n):allV c=(⟨l,N,n⟩,0):=by refine(if_pos h).trans ((if_neg fun⟨r,U⟩=>k r U).trans ?_);rw[←e,←A];exact if_neg T
end Go.Proofs.YtknafdcgpaejlaaDoor.nq
